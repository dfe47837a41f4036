/- Joined: Rqd, Rlr, Rls, Ver, Law. -/
import Derived.Test.YtmkbpjoihdfpkaaGreatQzc
import Derived.Test.YtmkbpjoihdfpkaaGreatQna
import Derived.Test.YtmkbpjoihdfpkaaGreatQnd
import Derived.Test.YtmkbpjoihdfpkaaGreatQnh
import Derived.Test.YtmkbpjoihdfpkaaGreatQn
import Derived.Test.YtmkbpjoihdfpkaaGreatQoi
/- quadformref02: Quotient,Half,Floor,Nearest. -/
namespace Go.Proofs.YtmkbpjoihdfpkaaGreat
open Go Go.Eng Go.Num Go.Proofs
open Go.Det (nearZ)
set_option maxHeartbeats 8000000 in
theorem quot_ok (x1 y1 x2 y2:Value) (z1 z2:Int) (N:Nat) (w:World) (h1:IV w N x1 y1 z1) (h2:IV w N x2 y2 z2) (hN:N < 68719476736) (hz:z2 ≠ 0) :
 Meets Tryz.prog 118 #[.agg #[x1,y1],.agg #[x2,y2]] w (RQ w N z1 z2):=by
 refine fn_W (n:=9) Tryz.func118 rfl rfl (by kernel_rfl) (by simp) ?_
 have hX:Ext w w:=Ext.refl w
 refine gh ?_
 refine R1_box (v:=.agg _) (.inl rfl) rfl ?_
 intro w_1 hB0_ hE_ hs_
 have hA:Blk w_1 w.heap.size 47 #[x1,y1]:=hB0_
 obtain ⟨gA,hg_⟩ : ∃ g,g = w.heap.size:=⟨_,rfl⟩
 rw [← hg_] at hA ⊢
 have hfr_gA:w.heap.size≤gA:=by have:=hX.size; omega
 replace h1:=h1.ext hE_
 replace h2:=h2.ext hE_
 replace hX:=hX.trans hE_
 clear hB0_ hs_ hg_ hE_
 refine gh ?_
 refine R1_box (v:=.agg _) (.inl rfl) rfl ?_
 intro w_2 hB0_ hE_ hs_
 have hB:Blk w_2 w_1.heap.size 47 #[x2,y2]:=hB0_
 obtain ⟨gB,hg_⟩ : ∃ g,g = w_1.heap.size:=⟨_,rfl⟩
 rw [← hg_] at hB ⊢
 have hfr_gB:w.heap.size≤gB:=by have:=hX.size; omega
 have hne_gB_gA:gB ≠ gA:=by have:=hA.lt; omega
 replace h1:=h1.ext hE_
 replace h2:=h2.ext hE_
 replace hA:=hA.ext hE_
 replace hX:=hX.trans hE_
 clear hB0_ hs_ hg_ hE_
 refine gh ?_
 refine R1_alloc (.inl rfl) z_Rat ?_
 intro w_3 hB0_ hE_ hs_
 have hR:=RB.zero hB0_
 obtain ⟨gR,hg_⟩ : ∃ g,g = w_2.heap.size:=⟨_,rfl⟩
 rw [← hg_] at hR ⊢
 have hfr_gR:w.heap.size≤gR:=by have:=hX.size; omega
 have hne_gR_gA:gR ≠ gA:=by have:=hA.lt; omega
 have hne_gR_gB:gR ≠ gB:=by have:=hB.lt; omega
 replace h1:=h1.ext hE_
 replace h2:=h2.ext hE_
 replace hA:=hA.ext hE_
 replace hB:=hB.ext hE_
 replace hX:=hX.trans hE_
 clear hB0_ hs_ hg_ hE_
 obtain ⟨p0,p1⟩:=blkP hA
 obtain ⟨q0,q1⟩:=blkP hB
 refine gh ?_
 refine R1_bldRat rfl rfl ?_
 refine gh ?_
 refine R1_call2 (ratNormalize_ok _ _ _ _ z1 z2 N w_3 h1 h2 hN hz) ?_
 rintro _ w_4 ⟨hE_,a0,a1,a2,a3,rfl,hc1,hc2⟩
 replace h1:=h1.ext hE_
 replace h2:=h2.ext hE_
 replace hA:=hA.ext hE_
 replace hB:=hB.ext hE_
 replace hR:=hR.ext hE_
 replace hX:=hX.trans hE_
 clear hE_
 refine gh ?_
 refine R1_storeRB (.inl rfl) rfl rfl hR (hc1) (hc2) ?_
 intro w_5 hR hC_ hk_ hs_
 replace h1:=h1.kp hk_
 replace h2:=h2.kp hk_
 replace hA:=hA.ch hC_ (by omega)
 replace hB:=hB.ch hC_ (by omega)
 replace hc1:=hc1.kp hk_
 replace hc2:=hc2.kp hk_
 replace hX:=hC_.ext_of hX (fun b hb=>by omega)
 clear hC_ hk_ hs_
 have hb:=low_bd h1.bd h2.bd
 refine gh ?_
 exact retRB rfl rfl hR fun x y x' y' h1 h2=>⟨hX,x,y,x',y',rfl,_,_,h1,h2,hb.1,hb.2,lowD_pos hz,low_cross⟩
set_option maxHeartbeats 8000000 in
theorem half_ok (w:World):Meets Tryz.prog 149 #[] w (RQ w 1 1 2):=by
 refine fn_W (n:=4) Tryz.func149 rfl rfl (by kernel_rfl) (by simp) ?_
 have hX:Ext w w:=Ext.refl w
 refine gh ?_
 refine R1_alloc (.inl rfl) z_Rat ?_
 intro w_1 hB0_ hE_ hs_
 have hR:=RB.zero hB0_
 obtain ⟨gR,hg_⟩ : ∃ g,g = w.heap.size:=⟨_,rfl⟩
 rw [← hg_] at hR ⊢
 have hfr_gR:w.heap.size≤gR:=by have:=hX.size; omega
 replace hX:=hX.trans hE_
 clear hB0_ hs_ hg_ hE_
 refine gh ?_
 refine R1_call2 (rsmall_ok 1 w_1 (by decide) (by decide)) ?_
 rintro _ w_2 ⟨hE_,a0,a1,rfl,hc1⟩
 replace hR:=hR.ext hE_
 replace hX:=hX.trans hE_
 clear hE_
 refine gh ?_
 refine R1_call2 (rsmall_ok 2 w_2 (by decide) (by decide)) ?_
 rintro _ w_3 ⟨hE_,a2,a3,rfl,hc2⟩
 replace hR:=hR.ext hE_
 replace hc1:=hc1.ext hE_
 replace hX:=hX.trans hE_
 clear hE_
 refine gh ?_
 refine R1_bldRat rfl rfl ?_
 refine gh ?_
 refine R1_storeRB (.inl rfl) rfl rfl hR (hc1) (hc2) ?_
 intro w_4 hR hC_ hk_ hs_
 replace hc1:=hc1.kp hk_
 replace hc2:=hc2.kp hk_
 replace hX:=hC_.ext_of hX (fun b hb=>by omega)
 clear hC_ hk_ hs_
 refine gh ?_
 exact retRB rfl rfl hR fun x y x' y' h1 h2=>⟨hX,x,y,x',y',rfl,_,_,h1,h2,by unfold Bd; decide,by unfold Bd; decide,by decide,rfl⟩
theorem floor_eq {n d a b:Int} (hb:0 < b) (hd:0 < d) (h:n * b = a * d):n / d = a / b:=by
 rw [← Int.mul_ediv_mul_of_pos_left n d hb,h,Int.mul_comm d b,Int.mul_ediv_mul_of_pos_left a b hd]
theorem low_floor {n d:Int} (hd:0 < d):lowN n d / lowD n d = n / d:=floor_eq hd (lowD_pos (by omega)) low_cross
set_option maxHeartbeats 8000000 in
theorem ratFloor_ok (x y x' y':Value) (a b:Int) (N:Nat) (w:World) (h:Qv w N x y x' y' a b) (hN:N < 68719476736) (hb:0 < b) :
 Meets Tryz.prog 147 #[.agg #[x,y,x',y']] w (RI w (a / b)):=by
 obtain ⟨n1,d1,hn1,hd1,bn1,bd1,pd1,e1⟩:=h
 refine fn_W (n:=11) Tryz.func147 rfl rfl (by kernel_rfl) (by simp) ?_
 have hbb:=low_bd bn1 bd1
 have hX:Ext w w:=Ext.refl w
 refine gh ?_
 refine R1_box (v:=.agg _) (.inl rfl) rfl ?_
 intro w_1 hB0_ hE_ hs_
 have hA:Blk w_1 w.heap.size 129 #[x,y,x',y']:=hB0_
 obtain ⟨gA,hg_⟩ : ∃ g,g = w.heap.size:=⟨_,rfl⟩
 rw [← hg_] at hA ⊢
 have hfr_gA:w.heap.size≤gA:=by have:=hX.size; omega
 replace hn1:=hn1.ext hE_
 replace hd1:=hd1.ext hE_
 replace hX:=hX.trans hE_
 clear hB0_ hs_ hg_ hE_
 refine gh ?_
 refine R1_alloc (.inl rfl) z_Int ?_
 intro w_2 hB0_ hE_ hs_
 have hR:=Bx.zero (N:=1) true hB0_
 obtain ⟨gR,hg_⟩ : ∃ g,g = w_1.heap.size:=⟨_,rfl⟩
 rw [← hg_] at hR ⊢
 have hfr_gR:w.heap.size≤gR:=by have:=hX.size; omega
 have hne_gR_gA:gR ≠ gA:=by have:=hA.lt; omega
 replace hn1:=hn1.ext hE_
 replace hd1:=hd1.ext hE_
 replace hA:=hA.ext hE_
 replace hX:=hX.trans hE_
 clear hB0_ hs_ hg_ hE_
 obtain ⟨p0,p1,p2,p3⟩:=blkQ hA
 refine gh ?_
 refine R1_load4F (by decide) agg_Rat rfl p0 p1 p2 p3 ?_
 clear p0 p1 p2 p3
 refine gh ?_
 refine R1_call2 (ratNormalize_ok _ _ _ _ n1 d1 N w_2 (hn1.iv bn1) (hd1.iv bd1) hN (by omega)) ?_
 rintro _ w_3 ⟨hE_,a0,a1,a2,a3,rfl,hc1,hc2⟩
 replace hn1:=hn1.ext hE_
 replace hd1:=hd1.ext hE_
 replace hA:=hA.ext hE_
 replace hR:=hR.ext hE_
 replace hX:=hX.trans hE_
 clear hE_
 refine gh ?_
 refine R1_alloc (.inl rfl) z_Rat ?_
 intro w_4 hB0_ hE_ hs_
 have hXr:=RB.zero hB0_
 obtain ⟨gX,hg_⟩ : ∃ g,g = w_3.heap.size:=⟨_,rfl⟩
 rw [← hg_] at hXr ⊢
 have hfr_gX:w.heap.size≤gX:=by have:=hX.size; omega
 have hne_gX_gA:gX ≠ gA:=by have:=hA.lt; omega
 have hne_gX_gR:gX ≠ gR:=by have:=hR.lt; omega
 replace hn1:=hn1.ext hE_
 replace hd1:=hd1.ext hE_
 replace hA:=hA.ext hE_
 replace hR:=hR.ext hE_
 replace hc1:=hc1.ext hE_
 replace hc2:=hc2.ext hE_
 replace hX:=hX.trans hE_
 clear hB0_ hs_ hg_ hE_
 refine gh ?_
 refine R1_storeRB (.inl rfl) rfl rfl hXr (hc1) (hc2) ?_
 intro w_5 hXr hC_ hk_ hs_
 replace hn1:=hn1.kp hk_
 replace hd1:=hd1.kp hk_
 replace hA:=hA.ch hC_ (by omega)
 replace hR:=hR.kp hk_ hC_ (by first | omega | assumption)
 replace hc1:=hc1.kp hk_
 replace hc2:=hc2.kp hk_
 replace hX:=hC_.ext_of hX (fun b hb=>by omega)
 clear hC_ hk_ hs_
 obtain ⟨c0,c1,c2,c3,hB5,hc5,hc5'⟩:=id hXr
 obtain ⟨⟨q0,q1⟩,q2,q3⟩:=blkR hB5
 refine gh ?_
 refine R1_fieldAddr fa_Rat0 rfl ?_
 refine gh ?_
 refine R1_fieldAddr fa_Rat1 rfl ?_
 refine gh ?_
 refine R1_call2 (rquo_ok _ _ _ _ _ _ N w_5 (hc5.iv hbb.1) (hc5'.iv hbb.2) hN) ?_
 rintro _ w_6 ⟨hE_,z0,z1,rfl,hq⟩
 replace hn1:=hn1.ext hE_
 replace hd1:=hd1.ext hE_
 replace hA:=hA.ext hE_
 replace hR:=hR.ext hE_
 replace hc1:=hc1.ext hE_
 replace hc2:=hc2.ext hE_
 replace hXr:=hXr.ext hE_
 replace hX:=hX.trans hE_
 clear hE_
 clear q0 q1 q2 q3
 have hbq:Bd N (lowN n1 d1 / lowD n1 d1):=hbb.1.ediv
 refine gh ?_
 refine R1_storeBx (by first | exact .inl rfl | exact .inr ⟨rfl,fun _ h=>h.mono fun b _ e=>by omega⟩) rfl rfl hR (hq.ev true hbq) ?_
 intro w_7 hR hC_ hk_ hs_
 replace hn1:=hn1.kp hk_
 replace hd1:=hd1.kp hk_
 replace hA:=hA.ch hC_ (by omega)
 replace hc1:=hc1.kp hk_
 replace hc2:=hc2.kp hk_
 replace hXr:=hXr.kp hk_ hC_ (by first | omega | assumption)
 replace hq:=hq.kp hk_
 replace hX:=hC_.ext_of hX (fun b hb=>by omega)
 clear hC_ hk_ hs_
 refine gh ?_
 rw [low_floor pd1,floor_eq hb pd1 e1] at hR
 exact retI rfl rfl hR hX
set_option maxHeartbeats 8000000 in
theorem ratNearest_ok (x y x' y':Value) (a b:Int) (N:Nat) (w:World) (h:Qv w N x y x' y' a b) (hN1:1≤N) (hN:N < 17179869184) (hb:0 < b) (hbd:Bd N (nearZ a b)) :
 Meets Tryz.prog 117 #[.agg #[x,y,x',y']] w (RI w (nearZ a b)):=by
 refine fn_W (n:=7) Tryz.func117 rfl rfl (by kernel_rfl) (by simp) ?_
 have hX:Ext w w:=Ext.refl w
 refine gh ?_
 refine R1_box (v:=.agg _) (.inl rfl) rfl ?_
 intro w_1 hB0_ hE_ hs_
 have hA:Blk w_1 w.heap.size 129 #[x,y,x',y']:=hB0_
 obtain ⟨gA,hg_⟩ : ∃ g,g = w.heap.size:=⟨_,rfl⟩
 rw [← hg_] at hA ⊢
 have hfr_gA:w.heap.size≤gA:=by have:=hX.size; omega
 replace h:=h.ext hE_
 replace hX:=hX.trans hE_
 clear hB0_ hs_ hg_ hE_
 refine gh ?_
 refine R1_alloc (.inl rfl) z_Int ?_
 intro w_2 hB0_ hE_ hs_
 have hR:=Bx.zero (N:=1) true hB0_
 obtain ⟨gR,hg_⟩ : ∃ g,g = w_1.heap.size:=⟨_,rfl⟩
 rw [← hg_] at hR ⊢
 have hfr_gR:w.heap.size≤gR:=by have:=hX.size; omega
 have hne_gR_gA:gR ≠ gA:=by have:=hA.lt; omega
 replace h:=h.ext hE_
 replace hA:=hA.ext hE_
 replace hX:=hX.trans hE_
 clear hB0_ hs_ hg_ hE_
 refine gh ?_
 refine W_seqD [(0,0),(1,1),(2,2),(3,1),(4,2)] mixed (by kernel_rfl) (fun w_3 hE_ _=>?_)
 replace h:=h.ext hE_
 replace hA:=hA.ext hE_
 replace hR:=hR.ext hE_
 replace hX:=hX.trans hE_
 clear hE_
 obtain ⟨p0,p1,p2,p3⟩:=blkQ hA
 refine gh ?_
 refine R1_load4E (by decide) agg_Rat rfl p0 p1 p2 p3 ?_
 clear p0 p1 p2 p3
 refine gh ?_
 refine R1_call1 (half_ok w_3) ?_
 rintro _ w_4 ⟨hE_,a0,a1,a2,a3,rfl,hh⟩
 refine ⟨hE_,?_⟩
 replace h:=h.ext hE_
 replace hA:=hA.ext hE_
 replace hR:=hR.ext hE_
 replace hX:=hX.trans hE_
 clear hE_
 refine gh ?_
 refine R1_call2 (ratAdd_ok _ _ _ _ _ _ _ _ a b 1 2 N w_4 h (hh.mono hN1) hN) ?_
 rintro _ wq ⟨hE_,b0,b1,b2,b3,rfl,hs⟩
 replace hX:=hX.trans hE_
 replace hR:=hR.ext hE_
 clear hh hA h
 refine gh ?_
 refine R1_call1 (ratFloor_ok _ _ _ _ (a * 2 + 1 * b) (b * 2) (N + N + 1) wq hs (by omega) (by omega)) ?_
 rintro _ w_5 ⟨hE_,z0,z1,rfl,hq⟩
 refine ⟨hE_,?_⟩
 replace hs:=hs.ext hE_
 replace hR:=hR.ext hE_
 replace hX:=hX.trans hE_
 clear hE_
 have e:(a * 2 + 1 * b) / (b * 2) = nearZ a b:=by unfold nearZ; congr 1 <;> omega
 rw [e] at hq
 refine gh ?_
 refine R1_storeBx (by first | exact .inl rfl | exact .inr ⟨rfl,fun _ h=>h.mono fun b _ e=>by omega⟩) rfl rfl hR (hq.ev true hbd) ?_
 intro w_6 hR hC_ hk_ hs_
 replace hs:=hs.kp hk_
 replace hq:=hq.kp hk_
 replace hX:=hC_.ext_of hX (fun b hb=>by omega)
 clear hC_ hk_ hs_
 refine gh ?_
 exact retI rfl rfl hR hX
end Go.Proofs.YtmkbpjoihdfpkaaGreat
namespace Go.Proofs.YtmkbpjoihdfpkaaGreat
open Go Go.Eng Go.Num Go.Proofs
open Go.Det (gr bm det Sy PM Red SzF LvF LI RRb RJ one nearZ rop swp2 msr)
def RStp (w:World) (n N:Nat) (M:Nat→Nat→Int) (v:Value) (w':World):Prop :=
 Ext w w'∧((Red n M∧v = .tuple #[.slice none 0 0,.bool false]) ∨ ∃ gO gs U,v = .tuple #[.slice (some ⟨gO,0,none⟩) n n,.bool true]∧OMat w' gO gs n n U∧(∀ i j,i < n→j < n→Bd N (U i j)) ∧
  ((∃ i c,c < i∧i < n∧Red i M∧SzF M i (c + 1)∧¬ (2 * bm c M i c≤det (c + 1) M∧-(2 * bm c M i c)≤det (c + 1) M)∧U = set2 one c i (-(nearZ (bm c M i c) (det (c + 1) M)))) ∨
   (∃ p,p + 1 < n∧Red (p + 1) M∧SzF M (p + 1) 0∧¬ LvF M p∧U = swp (p + 1) p one)))
theorem one_bd {N:Nat} (hN:1≤N) (i j:Nat):Bd N (one i j):=by
 unfold one
 have h1:Bd 1 1:=by unfold Bd; decide
 split
 · exact h1.mono hN
 · exact Bd.zero N
set_option maxHeartbeats 16000000 in
theorem step_ok (va:Value) (n N:Nat) (M:Nat→Nat→Int) (w:World) (ha:MatE (EI N) w va n (fun _=>n) M) (hn1:1≤n) (hn:n≤16) (hN1:1≤N) (hN2:N < 262000) (hp:PM n M)
 (hQ:∀ i c,c < i→i < n→Red i M→SzF M i (c + 1)→¬ (2 * bm c M i c≤det (c + 1) M∧-(2 * bm c M i c)≤det (c + 1) M)→Bd N (nearZ (bm c M i c) (det (c + 1) M))) :
 Meets Tryz.prog 80 #[va] w (RStp w n N M):=by
 refine fn_W (n:=83) Tryz.func80 rfl rfl (by kernel_rfl) (by simp) ?_
 have hN:N < 1048576:=by omega
 have hN':N < 262144:=by omega
 have hokS:okS n (fun _=>n) = true:=okS_iff.2 ⟨hn1,hn,fun _ _=>rfl⟩
 have hbM:∀ i j,i < n→j < n→Bd N (M i j):=fun i j hi hj=>ha.bd hi hj
 have hNb:Nb N 16 < 17179869184:=by simp only [Nb]; omega
 have hK1:1≤Nb N 16:=Nat.le_trans hN1 (Nb_le' N (Nat.zero_le 16))
 have hNK:N≤Nb N 16:=Nb_le' N (Nat.zero_le 16)
 refine gh ?_
 refine R1_call2 (rleading_ok va n N (fun _=>n) M w ha hN1 hN) ?_
 rintro _ w1 ⟨hE1,⟨hok,rfl⟩ | ⟨_,u,rfl,hG⟩⟩
 · rw [hokS] at hok; cases hok
 have hd0:RowE (EC (Nb N 16)) w1 u n (fun k=>det (k + 1) M):=hG.rowC
 obtain ⟨Aa,capa,rfl,_⟩:=id ha
 clear hG
 refine gh ?_
 refine R1_call2 (ridentity_ok ((n:Nat):Int) w1 (by omega) (by omega)) ?_
 intro v w2 hv
 obtain ⟨_,rfl,hE2,gO,gs,rfl,hgO,hgs,hI⟩:=hv.get (by unfold idOk; exact decide_eq_true (by omega))
 clear hv
 rw [Int.toNat_natCast] at hI hgs ⊢
 have hW:WMat w2 gO gs n n true (fun _ _=>N) one:=hI.wm true fun i j _ _=>one_bd hN1 i j
 have hE12:=hE1.trans hE2
 have ha2:=ha.ext hE12
 have hd:=hd0.extC hE2
 have hsz:=hE1.size
 have hgw:w.heap.size≤gO:=by omega
 have hgsw:∀ i,i < n→w.heap.size≤gs i:=fun i hi=>by have:=hgs i hi; omega
 clear hI hgO hgs hd0 hsz
 refine gh ?_
 refine W_seqM (fun f w'=>Ext w w'∧Red n M) ?_ ?_
 · refine gh ?_
   refine W_loop (fun q f w'=>∃ i,q = n - i∧i≤n∧f 0 = .slice Aa n capa∧f 4 = u∧f 6 = .slice (some ⟨gO,0,none⟩) n n∧f 22 = .int .i64 ((n:Nat):Int)∧f 23 = .int .i64 ((i:Nat):Int)∧Ext w2 w'∧Red i M)
    n ⟨0,rfl,Nat.zero_le _,rfl,rfl,rfl,rfl,rfl,Ext.refl _,Go.Det.Red.zero M⟩ ?_
   rintro q f w3 ⟨i,rfl,hi,hf0,hf4,hf6,hf22,hf23,hE,hR⟩
   rw [ui hf0,ui hf4,ui hf6,ui hf22,ui hf23]
   clear hf0 hf4 hf6 hf22 hf23
   by_cases hlt:i < n
   · refine gh ?_
     refine W_seqM (fun f w'=>f 0 = .slice Aa n capa∧f 4 = u∧f 6 = .slice (some ⟨gO,0,none⟩) n n∧f 22 = .int .i64 ((n:Nat):Int)∧f 23 = .int .i64 ((i:Nat):Int)∧f 8 = .int .i64 ((i:Nat):Int)∧Ext w2 w'∧SzF M i 0) ?_ ?_
     · refine gh ?_
       refine W_loop (fun q f w'=>∃ jj,q = jj∧jj≤i∧f 0 = .slice Aa n capa∧f 4 = u∧f 6 = .slice (some ⟨gO,0,none⟩) n n∧f 22 = .int .i64 ((n:Nat):Int)∧f 23 = .int .i64 ((i:Nat):Int)∧f 8 = .int .i64 ((i:Nat):Int)∧f 9 = .int .i64 (((jj:Nat):Int) - 1)∧Ext w2 w'∧SzF M i jj)
        i ⟨i,rfl,Nat.le_refl _,rfl,rfl,rfl,rfl,rfl,rfl,rfl,hE,fun c h1 h2=>absurd h1 (by omega)⟩ ?_
       clear hE
       rintro q f w4 ⟨jj,rfl,hj,hf0,hf4,hf6,hf22,hf23,hf8,hf9,hE,hz⟩
       rw [ui hf0,ui hf4,ui hf6,ui hf22,ui hf23,ui hf8,ui hf9]
       clear hf0 hf4 hf6 hf22 hf23 hf8 hf9
       refine W_seq ?_
       by_cases h0:q = 0
       · subst h0
         refine gh ?_
         exact ⟨rfl,rfl,rfl,rfl,rfl,rfl,hE,hz⟩
       obtain ⟨c,rfl⟩ : ∃ c,q = c + 1:=⟨q - 1,by omega⟩
       rw [show ((c + 1:Nat):Int) - 1 = ((c:Nat):Int) by omega]
       refine gh ?_
       refine R1_call2 (sized_ok _ u n N i c M w4 (ha2.ext hE) (hd.extC hE) hlt (by omega) hn hN1 hN) ?_
       rintro _ w5 ⟨hE5,b,rfl,hb⟩
       cases b with
       | true =>
        refine gh ?_
        refine ⟨_,Nat.lt_succ_self c,c,rfl,by omega,rfl,rfl,rfl,rfl,rfl,rfl,rfl,hE.trans hE5,fun c' h1 h2=>?_⟩
        by_cases e:c' = c
        · subst e; exact hb.1 rfl
        · exact hz c' (by omega) h2
       | false =>
        have hv:¬ (2 * bm c M i c≤det (c + 1) M∧-(2 * bm c M i c)≤det (c + 1) M):=fun h=>by cases hb.2 h
        have bq:=hQ i c (by omega) hlt hR hz hv
        have hci:c < i:=by omega
        have hb1:=bm_bd hN1 hlt (show c < n by omega) hn hbM
        have hb2:=det_bdL hN1 (show c + 1≤n by omega) hn hbM
        have hpc:=hp (c + 1) (by omega)
        have hE25:=hE.trans hE5
        refine gh ?_
        refine W_seqD [(0,3),(1,3),(2,3),(3,0),(4,3),(5,3),(6,3),(7,3),(9,3),(10,3),(11,3),(8,1),(12,1),(13,1),(14,1),(15,1),(16,3),(17,2)] mixed (by kernel_rfl) (fun w6 hE6 _=>?_)
        have hE26:=hE25.trans hE6
        have ha6:=ha2.ext hE26
        have hd6:=hd.extC hE26
        have hW6:=hW.ext hE26
        have hX:=hE12.trans hE26
        have hx6:=hW6.at (i:=c) (by omega)
        clear hE hE5 hE25 hE26
        have hdE:∀ w',Ext w6 w'→RowE (EC (Nb N 16)) w' u n (fun k=>det (k + 1) M):=fun w' h=>hd6.extC h
        have hXw:=hX
        clear hX hd6
        have hX:Ext w6 w6:=(Ext.refl _)
        refine gh ?_
        refine gh ?_
        refine R1_call1 (lambda_ok _ n N i c M w6 ha6 hlt (by omega) hn hN1 hN) ?_
        rintro _ w_1 ⟨hE_,x2,x3,rfl,h1⟩
        refine ⟨hE_,?_⟩
        replace ha6:=ha6.ext hE_
        replace hW6:=hW6.ext hE_
        replace hX:=hX.trans hE_
        clear hE_
        refine gh ?_
        refine R1_call1 (rminor_ok u n (Nb N 16) (c + 1) M w_1 (hdE w_1 hX) (by omega) hn hK1) ?_
        rintro _ w_2 ⟨hE_,x4,x5,rfl,h2⟩
        refine ⟨hE_,?_⟩
        replace ha6:=ha6.ext hE_
        replace hW6:=hW6.ext hE_
        replace h1:=h1.ext hE_
        replace hX:=hX.trans hE_
        clear hE_
        refine gh ?_
        refine R1_call1 (quot_ok _ _ _ _ _ _ (Nb N 16) w_2 (h1.iv hb1) (h2.iv hb2) (by omega) (by omega)) ?_
        rintro _ w_3 ⟨hE_,b0,b1,b2,b3,rfl,hq⟩
        refine ⟨hE_,?_⟩
        replace ha6:=ha6.ext hE_
        replace hW6:=hW6.ext hE_
        replace h1:=h1.ext hE_
        replace h2:=h2.ext hE_
        replace hX:=hX.trans hE_
        clear hE_
        refine gh ?_
        refine R1_call1 (ratNearest_ok _ _ _ _ _ _ (Nb N 16) w_3 hq hK1 (by omega) hpc (bq.mono hNK)) ?_
        rintro _ w_4 ⟨hE_,x6,x7,rfl,h3⟩
        refine ⟨hE_,?_⟩
        replace ha6:=ha6.ext hE_
        replace hW6:=hW6.ext hE_
        replace hq:=hq.ext hE_
        replace hX:=hX.trans hE_
        clear hE_
        refine gh ?_
        refine R1_call1 (rneg_ok _ _ _ N w_4 (h3.iv bq) (by omega)) ?_
        rintro _ w_5 ⟨hE_,x8,x9,rfl,h4⟩
        refine ⟨hE_,?_⟩
        replace ha6:=ha6.ext hE_
        replace hW6:=hW6.ext hE_
        replace h3:=h3.ext hE_
        replace hX:=hX.trans hE_
        clear hE_
        have hWl:=hW6.lt
        have hfin:=hXw.trans hX
        refine gh ?_
        refine R1_storeE (.inl rfl) rfl rfl (hW6.row c (by omega)) hlt (h4.ev true bq.neg) ?_
        intro w7 hr7 hC7 hk7 hs7
        have hW7:=hW6.put (show c < n by omega) hr7 hC7 hk7
        have hgc:=hgsw c (by omega)
        refine gh ?_
        refine ret2 (v:=.slice _ _ _) (v':=.bool _) rfl rfl rfl ⟨hC7.ext_of hfin (fun b hb=>by omega),.inr ⟨gO,gs,_,rfl,hW7.o,fun a b _ _=>?_,.inl ⟨i,c,hci,hlt,hR,hz,hv,rfl⟩⟩⟩
        unfold set2
        split
        · exact bq.neg
        · exact one_bd hN1 _ _
     clear hE
     rintro f w4 ⟨hf0,hf4,hf6,hf22,hf23,hf8,hE,hz⟩
     rw [ui hf8]
     clear hf8
     rw [ui hf0,ui hf4,ui hf6,ui hf22,ui hf23]
     clear hf0 hf4 hf6 hf22 hf23
     refine W_seq ?_
     by_cases h0:i = 0
     · subst h0
       refine gh ?_
       refine ⟨_,?_,1,rfl,by omega,rfl,rfl,rfl,rfl,rfl,hE,Go.Det.Red.one M⟩
       omega
     obtain ⟨p,rfl⟩ : ∃ p,i = p + 1:=⟨i - 1,by omega⟩
     refine gh ?_
     refine R1_call2 (lovasz_ok _ u n N p M w4 (ha2.ext hE) (hd.extC hE) hlt hn hN1 hN') ?_
     rintro _ w5 ⟨hE5,b,rfl,hb⟩
     cases b with
     | true =>
      refine gh ?_
      refine ⟨_,?_,p + 1 + 1,rfl,by omega,rfl,rfl,rfl,rfl,rfl,hE.trans hE5,⟨fun a c hc ha=>?_,fun a ha=>?_⟩⟩
      · omega
      · by_cases e:a = p + 1
        · subst e; exact hz c (Nat.zero_le _) hc
        · exact hR.sized a c hc (by omega)
      · by_cases e:a = p
        · subst e; exact hb.1 rfl
        · exact hR.lov a (by omega)
     | false =>
      have hE25:=hE.trans hE5
      refine gh ?_
      refine W_seqD [(0,3),(1,3),(2,3),(3,3),(4,3),(5,3),(6,3),(7,3),(8,3),(9,0),(10,3),(11,3),(12,3),(13,0),(14,3),(15,2),(16,3),(17,2)] mixed (by kernel_rfl) (fun w6 hE6 _=>?_)
      have hE26:=hE25.trans hE6
      have hW6:=hW.ext hE26
      have hxp:=hW6.at (i:=p + 1) hlt
      have hxk:=hW6.at (i:=p) (by omega)
      have hO6:=outer_full hW6.outer
      refine gh ?_
      refine R1_storeRow (one_of rfl) (.inl rfl) rfl rfl hO6 hlt ?_
      intro w7 ⟨hO7,_⟩ hC7 hk7 hs7
      refine gh ?_
      refine R1_storeRow (one_of rfl) (.inl rfl) rfl rfl hO7 (j:=p) (by omega) ?_
      intro w8 ⟨hO8,_⟩ hC8 hk8 hs8
      have hC78:=hC7.trans hC8
      have e:setN (setN gs (p + 1) (gs p)) p (gs (p + 1)) = swp (p + 1) p gs:=by
       funext t
       simp only [setN,swp]
       by_cases h1:t = p
       · rw [if_pos h1]
         by_cases h2:t = p + 1
         · omega
         · rw [if_neg h2,if_pos h1]
       · rw [if_neg h1]
         by_cases h2:t = p + 1
         · rw [if_pos h2,if_pos h2]
         · rw [if_neg h2,if_neg h2,if_neg h1]
      rw [e] at hO8
      have hW8:=hW6.swap hlt (show p < n by omega) hC78 (hk7.trans hk8) hO8
      refine gh ?_
      refine ret2 (v:=.slice _ _ _) (v':=.bool _) rfl rfl rfl ⟨hC78.ext_of (hE12.trans hE26) (fun b hb=>by omega),.inr ⟨gO,_,_,rfl,hW8.o,fun a b _ _=>?_,.inr ⟨p,hlt,hR,hz,fun h=>(by cases hb.2 h),rfl⟩⟩⟩
      unfold swp
      split
      · exact one_bd hN1 _ _
      · split <;> exact one_bd hN1 _ _
   · refine gh ?_
     obtain rfl:i = n:=by omega
     exact ⟨hE12.trans hE,hR⟩
 rintro f w2 ⟨hE,hR⟩
 refine gh ?_
 exact ret2 (v:=.slice _ _ _) (v':=.bool _) rfl rfl rfl ⟨hE,.inl ⟨hR,rfl⟩⟩
end Go.Proofs.YtmkbpjoihdfpkaaGreat
namespace Go.Proofs.YtmkbpjoihdfpkaaGreat
open Go Go.Eng Go.Num Go.Proofs
open Go.Det (gr bm det Sy PM Red SzF LvF LI RRb RJ one nearZ rop swp2 msr)
theorem mulM_step {n:Nat} {U T T':Nat→Nat→Int} (h:∀ a b,a < n→b < n→(Go.Det.sm n fun k=>U k a * T k b) = T' a b) {i j:Nat} (hi:i < n) (hj:j < n):mulM n (fun i j=>T j i) U i j = T' j i:=by
 rw [mulM_mul,← h j i hj hi]
 unfold Go.Det.mul
 exact Go.Det.sm_congr fun k _=>Int.mul_comm _ _
end Go.Proofs.YtmkbpjoihdfpkaaGreat
namespace Go.Proofs.YtmkbpjoihdfpkaaGreat
open Go Go.Eng Go.Num Go.Proofs
open Go.Det (gr bm det Sy PM Red one)
open Classical in
noncomputable def verE (r:Nat) (len:Nat→Nat) (G:Nat→Nat→Int) (r2:Nat) (len2:Nat→Nat) (H:Nat→Nat→Int) (r3:Nat) (len3:Nat→Nat) (T:Nat→Nat→Int):Nat :=
 if valE r len G = 0 then
  if redOk r2 len2 H then
   if r2 = r∧okS r3 len3 = true∧r3 = r then
    if (det r T = 1 ∨ det r T = -1)∧∀ i j,i < r→j < r→gr r (fun i j=>T j i) G i j = H i j then 0 else 10
   else 3
  else 6
 else valE r len G
theorem gr_mulM3 (n:Nat) (T G:Nat→Nat→Int):mulM n (fun i j=>T j i) (mulM n G T) = gr n (fun i j=>T j i) G:=by
 rw [Go.Det.gr_mul,mulM_mul,mulM_mul]; rfl
theorem gr_bd2 {n N:Nat} {G T:Nat→Nat→Int} (hn:n≤16) (bG:∀ i j,i < n→j < n→Bd N (G i j)) (bT:∀ i j,i < n→j < n→Bd N (T i j)):∀ i j,i < n→j < n→Bd (3 * N + 2) (gr n (fun i j=>T j i) G i j):=by
 intro i j hi hj
 rw [← gr_mulM2]
 have h1:∀ i j,i < n→j < n→Bd (N + N + 1) (mulM n (fun i j=>T j i) G i j):=fun i j hi hj=>sumTo_bd (N:=N + N) (by omega) fun t ht=>(bT t i ht hi).mul (bG t j ht hj)
 exact (sumTo_bd (N:=N + N + 1 + N) (by omega) fun t ht=>(h1 i t hi ht).mul (bT t j ht hj)).mono (by omega)
set_option maxHeartbeats 16000000 in
theorem verify_ok (va vh vt:Value) (r r2 r3 N:Nat) (len len2 len3:Nat→Nat) (G H T:Nat→Nat→Int) (w:World) (ha:MatE (EI N) w va r len G) (hh:MatZ w vh r2 len2 H) (ht:MatE (EI N) w vt r3 len3 T) (hN1:2≤N) (hN:N < 300000) :
 Meets Tryz.prog 39 #[va,vh,vt] w fun v w'=>Ext w w'∧v = .int .i64 ((verE r len G r2 len2 H r3 len3 T:Nat):Int):=by
 refine fn_W (n:=85) Tryz.func39 rfl rfl (by kernel_rfl) (by simp) ?_
 obtain ⟨Ah,caph,hvh,hch1,hch2,_⟩:=id hh
 obtain ⟨Aa,capa,hva,hca1,hca2,_⟩:=id ha
 have hh0:=hh
 have ha0:=ha
 have ht0:=ht
 have hX:Ext w w:=Ext.refl w
 refine gh ?_
 refine W_seq ?_
 refine gh ?_
 refine R1_call2 (validate_ok va r N len G w (ha0.ext hX) (by omega) (by omega)) ?_
 rintro _ w_1 ⟨hE_,rfl⟩
 replace hX:=hX.trans hE_
 clear hE_
 have h5:=valE_le r len G
 unfold verE
 by_cases h0:valE r len G = 0
 rotate_left
 · rw [if_neg h0]
   refine gh ?_
   exact ret1 (v:=.int _ _) rfl rfl ⟨hX,rfl⟩
 rw [if_pos h0]
 obtain ⟨hok,h8,hsy,hps⟩:=valE_zero.1 h0
 obtain ⟨hr1,hr2,hlen⟩:=okS_iff.1 hok
 refine gh ?_
 refine W_seq ?_
 refine gh ?_
 refine R1_call2 (isReduced_ok vh r2 len2 H w_1 (hh0.ext hX)) ?_
 rintro _ w2 ⟨hE2,b,rfl,hb⟩
 replace hX:=hX.trans hE2
 cases b with
 | false =>
  rw [if_neg (fun h=>by cases hb.2 h)]
  refine gh ?_
  exact ret1 (v:=.int _ _) rfl rfl ⟨hX,rfl⟩
 | true =>
 have hred:=hb.1 rfl
 rw [if_pos hred]
 have hredS:=hred.small
 refine gh ?_
 refine R1_call2 (shapeX_ok _ vt r3 len3 T w2 (ht0.ext hX)) ?_
 rintro _ _ ⟨rfl,rfl⟩
 obtain ⟨s1,c1,ok1,e1,h1⟩:=shapeV_cases r3 len3
 rw [e1]
 clear e1
 subst hvh hva
 by_cases hrr:r2 = r
 rotate_left
 · rw [if_neg (fun h=>hrr h.1)]
   refine gh ?_
   refine W_seq ?_
   refine gh ?_
   exact ret1 (v:=.int _ _) rfl rfl ⟨hX,rfl⟩
 subst hrr
 rcases h1 with ⟨hok3,rfl,rfl,rfl⟩ | ⟨hok3,rfl,rfl,rfl⟩
 rotate_left
 · rw [if_neg (fun h=>by have:=h.2.1; rw [okS_of,hok3] at this; cases this)]
   refine gh ?_
   refine W_seq ?_
   refine gh ?_
   exact ret1 (v:=.int _ _) rfl rfl ⟨hX,rfl⟩
 by_cases h3:s1 = r2
 rotate_left
 · rw [if_neg (fun h=>h3 h.2.2)]
   refine gh ?_
   refine W_seq ?_
   refine gh ?_
   exact ret1 (v:=.int _ _) rfl rfl ⟨hX,rfl⟩
 by_cases hc:len3 0 = r2
 rotate_left
 · rw [if_neg (fun h=>hc (by have:=h.2.1; rw [okS_of,hok3] at this; have:s1 = len3 0:=(by simpa using this); omega))]
   refine gh ?_
   refine W_seq ?_
   refine gh ?_
   exact ret1 (v:=.int _ _) rfl rfl ⟨hX,rfl⟩
 subst h3
 have hok3S:okS s1 len3 = true:=by rw [okS_of,hok3]; simpa using hc.symm
 rw [if_pos ⟨rfl,hok3S,rfl⟩]
 obtain ⟨_,_,hlen3⟩:=okS_iff.1 hok3S
 have hG:=ha0.sq hlen
 have hT:=ht0.sq hlen3
 have bG:∀ i j,i < s1→j < s1→Bd N (G i j):=fun i j hi hj=>hG.bd hi hj
 have bT:∀ i j,i < s1→j < s1→Bd N (T i j):=fun i j hi hj=>hT.bd hi hj
 have hNb:=Nb_big (show N < 1048576 by omega) (Nat.le_refl 16)
 have hK1:1≤Nb N 16:=Nat.le_trans (show 1≤N by omega) (Nb_le' N (Nat.zero_le 16))
 have bD:=det_bdL (show 1≤N by omega) (Nat.le_refl s1) hr2 bT
 have hoMd:okM s1 (fun _=>s1) = true:=okM_iff.2 ⟨⟨hr1,hr2,hr1,hr2⟩,fun _ _=>rfl⟩
 refine gh ?_
 refine W_seq ?_
 refine gh ?_
 refine R1_call2 (detT_ok (hT.ext hX) (show 1≤N by omega) (show N < 1048576 by omega) hr1 hr2) ?_
 rintro _ w3 ⟨hE3,x,y,rfl,hcv⟩
 rw [detB_det] at hcv
 replace hX:=hX.trans hE3
 refine gh ?_
 refine R1_alloc (.inl rfl) z_Int ?_
 intro w_2 hB0_ hE_ hs_
 have hD:=Bx.zero (N:=1) true hB0_
 obtain ⟨gD,hg_⟩ : ∃ g,g = w3.heap.size:=⟨_,rfl⟩
 rw [← hg_] at hD ⊢
 have hfr_gD:w.heap.size≤gD:=by have:=hX.size; omega
 replace hcv:=hcv.ext hE_
 replace hX:=hX.trans hE_
 clear hB0_ hs_ hg_ hE_
 refine gh ?_
 refine R1_storeBx (by first | exact .inl rfl | exact .inr ⟨rfl,fun _ h=>h.mono fun b _ e=>by omega⟩) rfl rfl hD (hcv.ev true bD) ?_
 intro w_3 hD hC_ hk_ hs_
 replace hcv:=hcv.kp hk_
 replace hX:=hC_.ext_of hX (fun b hb=>by omega)
 clear hC_ hk_ hs_
 refine gh ?_
 refine W_seq ?_
 obtain ⟨hD_u,hD_v,hD_B,hD_V⟩:=id hD
 obtain ⟨hD_0,hD_1⟩:=blkP hD_B
 refine gh ?_
 refine gh ?_
 refine R1_call2 (int64_ok _ _ _ (Nb N 16) w_3 hD_V.1 (by omega)) ?_
 rintro _ w_4 ⟨hE_,rfl⟩
 replace hD:=hD.ext hE_
 replace hX:=hX.trans hE_
 clear hE_
 clear hD_0 hD_1 hD_V
 have hclip:∀ a:Int,a = 1 ∨ a = -1→(clip (det s1 T) = a ↔ det s1 T = a):=fun a ha=>by
  unfold clip fits
  by_cases hf:-9223372036854775808≤det s1 T∧det s1 T < 9223372036854775808
  · rw [decide_eq_true hf,if_pos rfl]
  · rw [decide_eq_false hf,if_neg (by decide)]
    omega
 have hcl1:=hclip 1 (.inl rfl)
 have hcl2:=hclip (-1) (.inr rfl)
 have hun:(det s1 T = 1 ∨ det s1 T = -1) ↔ (clip (det s1 T) = 1 ∨ clip (det s1 T) = -1):=by rw [hcl1,hcl2]
 have hl2:=hredS.2.2.1
 have hok2:okM s1 len2 = true:=okM_iff.2 ⟨⟨hr1,hr2,by rw [hl2 0 (by omega)]; exact hr1,by rw [hl2 0 (by omega)]; exact hr2⟩,fun i hi=>by rw [hl2 i hi,hl2 0 (by omega)]⟩
 have hl20:len2 0 = s1:=hl2 0 (by omega)
 have hoA:okAdd s1 s1 (fun _=>s1) (fun _=>s1) = true:=by unfold okAdd; rw [hoMd]; simp
 have bI:∀ i j,i < s1→j < s1→Bd 2 (H i j):=fun i j hi hj=>by
  have:=hredS.2.2.2 i j hi hj
  exact zbd (by omega) (by omega)
 generalize clip (det s1 T) = cl at hun hcl1 hcl2 ⊢
 by_cases hu1:cl = 1
 · have hd1:det s1 T = 1 ∨ det s1 T = -1:=hun.2 (by omega)
   have hd0:det s1 T ≠ 0:=by rcases hd1 with e | e <;> rw [e] <;> decide
   have e0:trE s1 len G s1 len3 T = 0:=trE_sq h0 hlen3 hd0
   refine gh ?_
   refine R1_call2 (fromInts_ok _ s1 len2 H w_4 (hh0.ext hX)) ?_
   intro u w5 hu
   obtain ⟨_,rfl,hE5,gI,gsI,rfl,_,_,hOI⟩:=hu.get hok2
   rw [hl20] at hOI
   clear hu
   replace hX:=hX.trans hE5
   refine gh ?_
   refine R1_call2 (transform_ok _ vt s1 s1 N len len3 G T w5 (ha0.ext hX) (ht0.ext hX) (by omega) (by omega)) ?_
   rintro _ w6 ⟨hE6,⟨hne,_⟩ | ⟨_,gP,gsP,rfl,hP⟩⟩
   · exact absurd e0 hne
   rw [hc,gr_mulM3] at hP
   replace hX:=hX.trans hE6
   replace hOI:=hOI.ext hE6
   refine gh ?_
   rw [hc]
   refine W_seq ?_
   refine gh ?_
   refine R1_call2 (equal_ok _ _ s1 s1 (3 * N + 2) (fun _=>s1) (fun _=>s1) _ H w6 (hP.rd (gr_bd2 hr2 bG bT) (Nat.le_refl _) (by omega) (by omega)) (hOI.rd bI (by omega) (by omega) (by omega)) (by omega)) ?_
   rintro _ w7 ⟨hE7,b,rfl,hb⟩
   replace hX:=hX.trans hE7
   cases b with
   | false =>
    rw [if_neg (fun h=>by cases hb.2 ⟨hoA,h.2⟩)]
    refine gh ?_
    exact ret1 (v:=.int _ _) rfl rfl ⟨hX,rfl⟩
   | true =>
    rw [if_pos ⟨hd1,(hb.1 rfl).2⟩]
    refine gh ?_
    exact ret1 (v:=.int _ _) rfl rfl ⟨hX,rfl⟩
 · by_cases hu2:cl = -1
   · have hd1:det s1 T = 1 ∨ det s1 T = -1:=hun.2 (by omega)
     have hd0:det s1 T ≠ 0:=by rcases hd1 with e | e <;> rw [e] <;> decide
     have e0:trE s1 len G s1 len3 T = 0:=trE_sq h0 hlen3 hd0
     refine gh ?_
     refine R1_call2 (fromInts_ok _ s1 len2 H w_4 (hh0.ext hX)) ?_
     intro u w5 hu
     obtain ⟨_,rfl,hE5,gI,gsI,rfl,_,_,hOI⟩:=hu.get hok2
     rw [hl20] at hOI
     clear hu
     replace hX:=hX.trans hE5
     refine gh ?_
     refine R1_call2 (transform_ok _ vt s1 s1 N len len3 G T w5 (ha0.ext hX) (ht0.ext hX) (by omega) (by omega)) ?_
     rintro _ w6 ⟨hE6,⟨hne,_⟩ | ⟨_,gP,gsP,rfl,hP⟩⟩
     · exact absurd e0 hne
     rw [hc,gr_mulM3] at hP
     replace hX:=hX.trans hE6
     replace hOI:=hOI.ext hE6
     refine gh ?_
     rw [hc]
     refine W_seq ?_
     refine gh ?_
     refine R1_call2 (equal_ok _ _ s1 s1 (3 * N + 2) (fun _=>s1) (fun _=>s1) _ H w6 (hP.rd (gr_bd2 hr2 bG bT) (Nat.le_refl _) (by omega) (by omega)) (hOI.rd bI (by omega) (by omega) (by omega)) (by omega)) ?_
     rintro _ w7 ⟨hE7,b,rfl,hb⟩
     replace hX:=hX.trans hE7
     cases b with
     | false =>
      rw [if_neg (fun h=>by cases hb.2 ⟨hoA,h.2⟩)]
      refine gh ?_
      exact ret1 (v:=.int _ _) rfl rfl ⟨hX,rfl⟩
     | true =>
      rw [if_pos ⟨hd1,(hb.1 rfl).2⟩]
      refine gh ?_
      exact ret1 (v:=.int _ _) rfl rfl ⟨hX,rfl⟩
   · rw [if_neg (fun h=>by have:=hun.1 h.1; omega)]
     refine gh ?_
     exact ret1 (v:=.int _ _) rfl rfl ⟨hX,rfl⟩
set_option maxHeartbeats 16000000 in
theorem rverify_ok (va vh vt:Value) (r r2 r3 N:Nat) (len len2 len3:Nat→Nat) (G H T:Nat→Nat→Int) (w:World) (ha:MatE (EI N) w va r len G) (hh:MatZ w vh r2 len2 H) (ht:MatE (EI N) w vt r3 len3 T) (hN1:2≤N) (hN:N < 300000) :
 Meets Tryz.prog 32 #[va,vh,vt] w fun v w'=>Ext w w'∧v = .int .i64 ((verE r len G r2 len2 H r3 len3 T:Nat):Int):=by
 refine fn_W (n:=50) Tryz.func32 rfl rfl (by kernel_rfl) (by simp) ?_
 obtain ⟨Ah,caph,hvh,hch1,hch2,_⟩:=id hh
 obtain ⟨Aa,capa,hva,hca1,hca2,_⟩:=id ha
 have hh0:=hh
 have ha0:=ha
 have ht0:=ht
 have hX:Ext w w:=Ext.refl w
 refine gh ?_
 refine W_seq ?_
 refine gh ?_
 refine R1_call2 (rvalidate_ok va r N len G w (ha0.ext hX) (by omega) (by omega)) ?_
 rintro _ w_1 ⟨hE_,rfl⟩
 replace hX:=hX.trans hE_
 clear hE_
 have h5:=valE_le r len G
 unfold verE
 by_cases h0:valE r len G = 0
 rotate_left
 · rw [if_neg h0]
   refine gh ?_
   exact ret1 (v:=.int _ _) rfl rfl ⟨hX,rfl⟩
 rw [if_pos h0]
 obtain ⟨hok,h8,hsy,hps⟩:=valE_zero.1 h0
 obtain ⟨hr1,hr2,hlen⟩:=okS_iff.1 hok
 refine gh ?_
 refine W_seq ?_
 refine gh ?_
 refine R1_call2 (rIsReduced_ok vh r2 len2 H w_1 (hh0.ext hX)) ?_
 rintro _ w2 ⟨hE2,b,rfl,hb⟩
 replace hX:=hX.trans hE2
 cases b with
 | false =>
  rw [if_neg (fun h=>by cases hb.2 h)]
  refine gh ?_
  exact ret1 (v:=.int _ _) rfl rfl ⟨hX,rfl⟩
 | true =>
 have hred:=hb.1 rfl
 rw [if_pos hred]
 have hredS:=hred.small
 refine gh ?_
 refine R1_call2 (rsquare_ok _ vt r3 len3 T w2 (ht0.ext hX)) ?_
 rintro _ w3 ⟨hE3,rfl⟩
 replace hX:=hX.trans hE3
 obtain ⟨s,e1,hs⟩:=sqV_cases r3 len3
 rw [e1]
 subst hvh hva
 by_cases hrr:r2 = r
 rotate_left
 · rw [if_neg (fun h=>hrr h.1)]
   refine gh ?_
   refine W_seq ?_
   refine gh ?_
   exact ret1 (v:=.int _ _) rfl rfl ⟨hX,rfl⟩
 subst hrr
 by_cases hok3:okS r3 len3 = true
 rotate_left
 · have hok':okS r3 len3 = false:=by simpa using hok3
   rw [if_neg (fun h=>hok3 h.2.1),hok']
   refine gh ?_
   refine W_seq ?_
   refine gh ?_
   exact ret1 (v:=.int _ _) rfl rfl ⟨hX,rfl⟩
 rw [if_pos hok3] at hs
 subst hs
 rw [hok3]
 by_cases h3:s = r2
 rotate_left
 · rw [if_neg (fun h=>h3 h.2.2)]
   refine gh ?_
   refine W_seq ?_
   refine gh ?_
   exact ret1 (v:=.int _ _) rfl rfl ⟨hX,rfl⟩
 subst h3
 rw [if_pos ⟨rfl,rfl,rfl⟩]
 obtain ⟨_,_,hlen3⟩:=okS_iff.1 hok3
 have hG:=ha0.sq hlen
 have hT:=ht0.sq hlen3
 have bG:∀ i j,i < s→j < s→Bd N (G i j):=fun i j hi hj=>hG.bd hi hj
 have bT:∀ i j,i < s→j < s→Bd N (T i j):=fun i j hi hj=>hT.bd hi hj
 have hoMd:okM s (fun _=>s) = true:=okM_iff.2 ⟨⟨hr1,hr2,hr1,hr2⟩,fun _ _=>rfl⟩
 have hl2:=hredS.2.2.1
 have hok2:okM s len2 = true:=okM_iff.2 ⟨⟨hr1,hr2,by rw [hl2 0 (by omega)]; exact hr1,by rw [hl2 0 (by omega)]; exact hr2⟩,fun i hi=>by rw [hl2 i hi,hl2 0 (by omega)]⟩
 have hl20:len2 0 = s:=hl2 0 (by omega)
 have hoA:okAdd s s (fun _=>s) (fun _=>s) = true:=by unfold okAdd; rw [hoMd]; simp
 have bI:∀ i j,i < s→j < s→Bd 2 (H i j):=fun i j hi hj=>by
  have:=hredS.2.2.2 i j hi hj
  exact zbd (by omega) (by omega)
 refine gh ?_
 refine W_seq ?_
 refine gh ?_
 refine W_seq ?_
 refine gh ?_
 refine R1_call2 (runimodular_ok vt s N len3 T w3 (ht0.ext hX) (by omega) (by omega)) ?_
 rintro _ w4 ⟨hE4,rfl⟩
 replace hX:=hX.trans hE4
 have hoI:okI s len3 T = true ↔ det s T = 1 ∨ det s T = -1:=by rw [okI_iff,hok3,detB_det]; simp
 cases hbI:okI s len3 T with
 | false =>
  rw [if_neg (fun h=>by rw [hoI.2 h.1] at hbI; cases hbI)]
  refine gh ?_
  exact ret1 (v:=.int _ _) rfl rfl ⟨hX,rfl⟩
 | true =>
  have hd1:=hoI.1 hbI
  refine gh ?_
  refine R1_call2 (rcongruent_ok (N2:=N + N + 1) (hG.ext hX) (hT.ext hX) hr1 hr2 (by omega) rfl) ?_
  rintro _ w5 ⟨hE5,gP,gsP,rfl,_,_,hP⟩
  replace hX:=hX.trans hE5
  refine gh ?_
  refine R1_call2 (rof_ok _ s len2 H w5 (hh0.ext hX)) ?_
  intro u w6 hu
  obtain ⟨hE6,gI,gsI,rfl,_,_,hOI⟩:=hu.get hok2
  rw [hl20] at hOI
  replace hX:=hX.trans hE6
  replace hP:=hP.ext hE6
  refine gh ?_
  refine R1_call2 (requal_ok _ _ s s (3 * N + 2) (fun _=>s) (fun _=>s) _ H w6 (hP.rd (gr_bd2 hr2 bG bT) (Nat.le_refl _) (by omega) (by omega)) (hOI.rd bI (by omega) (by omega) (by omega)) (by omega)) ?_
  rintro _ w7 ⟨hE7,b,rfl,hb⟩
  replace hX:=hX.trans hE7
  cases b with
  | false =>
   rw [if_neg (fun h=>by cases hb.2 ⟨hoA,h.2⟩)]
   refine gh ?_
   exact ret1 (v:=.int _ _) rfl rfl ⟨hX,rfl⟩
  | true =>
   rw [if_pos ⟨hd1,(hb.1 rfl).2⟩]
   refine gh ?_
   exact ret1 (v:=.int _ _) rfl rfl ⟨hX,rfl⟩
end Go.Proofs.YtmkbpjoihdfpkaaGreat
namespace Go.Proofs.YtmkbpjoihdfpkaaGreat
open Go Go.Eng Go.Num Go.Proofs
open Go.Det (gr bm det Sy PM Red one)
theorem LatV.agg {w:World} {dm kd n cap m cap':Nat} {ns ms:Nat→Int} {A A':Option Addr} (h1:dm < 256) (h2:kd < 256) (h3:n≤cap) (h4:m≤cap') (h5:Nums w A n ns) (h6:Nums w A' m ms):∀ w',Ext w w'→LatV w' (.agg #[.int .u8 ((dm:Nat):Int),.int .u8 ((kd:Nat):Int),.slice A n cap,.slice A' m cap']) dm kd n ns m ms :=
 fun _ hE=>⟨A,cap,A',cap',rfl,h1,h2,h3,h4,h5.ext hE,h6.ext hE⟩
theorem cong_val {n:Nat} {M U:Nat→Nat→Int} (h:valE n (fun _=>n) M = 0) (hU:det n U = 1 ∨ det n U = -1):valE n (fun _=>n) (gr n U M) = 0∧det n (gr n U M) = det n M:=by
 obtain ⟨hok,h8,_,_⟩:=valE_zero.1 h
 obtain ⟨hp,hs⟩:=val_pm h
 have hp':=Go.Det.PM.cong hs hp (T:=U) (by rcases hU with e | e <;> rw [e] <;> decide)
 refine ⟨valE_0 ⟨hok,h8⟩ (fun i j _ _=>Go.Det.gr_symm hs i j) fun q hq=>hp' (q + 1) (by omega),?_⟩
 rw [Go.Det.gr_det]
 rcases hU with e | e <;> rw [e] <;> omega
end Go.Proofs.YtmkbpjoihdfpkaaGreat
