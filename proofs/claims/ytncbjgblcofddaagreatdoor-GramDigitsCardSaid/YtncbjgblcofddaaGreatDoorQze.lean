/- Joined: Rkp, Rkr. -/
import Derived.Test.YtncbjgblcofddaaGreatDoorQx
import Derived.Test.YtncbjgblcofddaaGreatDoorQzd
import Derived.Test.YtncbjgblcofddaaGreatDoorQw
import Derived.Test.YtncbjgblcofddaaGreatDoorQf
import Derived.Test.YtncbjgblcofddaaGreatDoorQj
/- bareiss.Rank. -/
namespace Go.Proofs.YtncbjgblcofddaaGreatDoor
open Go Go.Eng Go.Num Go.Proofs
open Go.Det (sw swp2 swp2_sw sw_sw sw_lt Rk)
set_option maxHeartbeats 8000000 in
theorem rank1_ok (i j gA r c N:Nat) (va:Value) (M:Nat→Nat→Int) (w:World) (hA:Blk w gA 22 #[va]) (ha:MatE (EI N) w va r (fun _=>c) M) (hi:i < r) (hj:j < c) :
 Meets Tryz.prog 160 #[.int .i64 ((i:Nat):Int),.int .i64 ((j:Nat):Int),.pointer (some ⟨gA,0,none⟩)] w (REV w N false (M i j)):=by
 refine fn_W (n:=13) Tryz.func160 rfl rfl (by kernel_rfl) (by simp) ?_
 refine gg ?_
 refine R1_alloc (.inl rfl) z_Int ?_
 intro w1 hB1 hE1 hs1
 have hR1:Bx w1 w.heap.size 1 false 0:=Bx.zero false hB1
 have f2:=blkS (hA.ext hE1)
 obtain ⟨ada,capa,ua,rfl,hua,hra⟩:=(ha.ext hE1).at hi
 obtain ⟨ada',capa',xa,ya,rfl,hxa,hya,hva⟩:=hra.at hj
 refine gg ?_
 refine R1_storeBx (N':=N) (.inl rfl) rfl rfl hR1 ⟨hva,fun e=>by cases e⟩ ?_
 intro w6 hR6 hC6 hk6 hs6
 refine gg ?_
 obtain ⟨x,y,hB,hv⟩:=hR6
 exact retC rfl agg_Int rfl hB ⟨hC6.ext_of hE1 (fun b hb=>by omega),x,y,rfl,hv⟩
def RRk (w:World) (ok:Bool) (r c:Nat) (M:Nat→Nat→Int) (v:Value) (w':World):Prop :=
 Ext w w'∧((ok = false∧v = .tuple #[.int .i64 ((0:Nat):Int),.bool false]) ∨ (ok = true∧∃ k,v = .tuple #[.int .i64 ((k:Nat):Int),.bool true]∧Rk r c M k))
def rst (k j:Nat) (W:Nat→Nat→Int) (l:Int) (a b:Nat):Int:=(W k j * W a b - W a j * W k b) / l
set_option maxHeartbeats 32000000 in
theorem rank_ok (va:Value) (r N:Nat) (len:Nat→Nat) (M:Nat→Nat→Int) (w:World) (ha:MatE (EI N) w va r len M) (hN1:1≤N) (hN:N < 1048576) :
 Meets Tryz.prog 108 #[va] w (RRk w (okM r len) r (len 0) M):=by
 obtain ⟨Aa,capa,hva,_⟩:=id ha
 refine fn_W (n:=112) Tryz.func108 rfl rfl (by kernel_rfl) (by simp) ?_
 refine gg ?_
 refine R1_box (v:=va) (.inl rfl) rfl ?_
 intro w1 hB1 hE1 hs1
 have hA1:Blk w1 w.heap.size 22 #[va]:=by rw [hva] at hB1 ⊢; exact hB1
 have f1:=blkS hA1
 obtain ⟨gA,hgA⟩ : ∃ g,g = w.heap.size:=⟨_,rfl⟩
 rw [← hgA] at hA1 f1 ⊢
 clear hB1
 refine gg ?_
 refine W_scope ?_
 refine gg ?_
 refine R1_call2 (shapeX_ok (EI N) _ r len M w1 (ha.ext hE1)) ?_
 rintro _ w2 ⟨rfl,rfl⟩
 by_cases hok:okM r len = true
 rotate_left
 · rw [shapeV_f hok]
   have hok:okM r len = false:=by simpa using hok
   refine gg ?_
   refine W_seq ?_
   refine gg ?_
   exact ret2 (v:=.int _ _) (v':=.bool _) rfl rfl rfl ⟨hE1,.inl ⟨hok,rfl⟩⟩
 rw [shapeV_t hok]
 obtain ⟨⟨hr1,hr2,hc1,hc2⟩,hlen⟩:=okM_iff.1 hok
 obtain ⟨c,hc⟩ : ∃ c,c = len 0:=⟨_,rfl⟩
 rw [← hc] at hc1 hc2 ⊢
 have hM:MatE (EI N) w va r (fun _=>c) M:=(ha.sq fun i hi=>by rw [hlen i hi,hc])
 refine gg ?_
 refine W_seq ?_
 refine gg ?_
 refine R1_func0 ?_
 refine gg ?_
 refine R1_call2 (table_ok r c _ N false _ M w1 (by omega) (by omega) (by omega) (fun i j hi hj w' hE'=>rank1_ok i j gA r c N va M w' (hA1.ext hE') (hM.ext (hE1.trans hE')) hi hj)) ?_
 rintro _ w5 ⟨hE5,gO,gE,rfl,hgO,hgE,hT⟩
 clear f1
 have hs01:=hE1.size
 have hX:Ext w w5:=hE1.trans hE5
 refine gg ?_
 refine R1_call2 (small_ok 1 w5 (by decide) (by decide)) ?_
 rintro _ w_1 ⟨hE_,a1,b1,rfl,hc1'⟩
 replace hT:=hT.ext hE_
 replace hX:=hX.trans hE_
 clear hE_
 have hb1:Bd N 1:=Bd.mono (N:=1) (by unfold Bd; decide) hN1
 have hO6:=hT.outer.lt
 have hF6:gE < w_1.heap.size:=by obtain ⟨_,h4,_⟩:=hT.flat; exact h4.lt
 have hs06:=hX.size
 refine gg ?_
 refine R1_alloc (.inl rfl) z_Int ?_
 intro w7a hBa_ hEa_ hsa_
 have hG0_:Bx w7a w_1.heap.size 1 true 0:=Bx.zero true hBa_
 obtain ⟨gL,hg_⟩ : ∃ g,g = w_1.heap.size:=⟨_,rfl⟩
 rw [← hg_] at hG0_ ⊢
 refine gg ?_
 refine R1_storeBx (.inl rfl) rfl rfl hG0_ ((hc1'.ext hEa_).ev true hb1) ?_
 intro w7 hL hCb_ hkb_ hsb_
 have hE7:Ext w_1 w7:=hCb_.ext_of hEa_ (fun b hb=>by omega)
 have hfr_gL:w_1.heap.size≤gL:=by omega
 clear hG0_ hBa_ hEa_ hsa_ hsb_ hCb_ hkb_ hg_
 replace hT:=hT.ext hE7
 replace hX:=hX.trans hE7
 have hgNL:gL ≠ gO∧gL ≠ gE:=by omega
 have hge:w.heap.size≤gO∧w.heap.size≤gE∧w.heap.size≤gL:=by omega
 have hEO:=hT.ne
 have hL:Bx w7 gL N false 1:=by
  obtain ⟨x,y,q1,q2⟩:=hL
  exact ⟨x,y,q1,q2.1,fun e=>by cases e⟩
 clear hc1' hb1 hO6 hF6 hE7 hE5 hE1 hA1 hfr_gL ha hgO hgE hs06 hs01
 refine gg ?_
 refine W_seq (W_label ?_)
 refine gg ?_
 refine W_seqM (fun f w'=>∃ k,f 9 = .int .i64 ((k:Nat):Int)∧Ext w w'∧Rk r c M k) ?_ ?_
 · refine gg ?_
   refine W_loop (fun m f w'=>∃ j k W l p cs ps,m = c - j∧j≤c∧f 4 = .int .i64 ((r:Nat):Int)∧f 5 = .int .i64 ((c:Nat):Int)∧f 7 = .slice (some ⟨gO,0,none⟩) r r∧f 8 = .pointer (some ⟨gL,0,none⟩)∧f 9 = .int .i64 ((k:Nat):Int)∧f 29 = .int .i64 ((c:Nat):Int)∧f 30 = .int .i64 ((j:Nat):Int)∧Ext w w'∧TMat w' gO gE ps r c false (Nb N k) W∧Bx w' gL (Nb N k) false l∧Go.Det.RI r c j k M W l p cs)
    c ⟨0,0,M,1,id,id,fun i=>i,rfl,Nat.zero_le _,rfl,rfl,rfl,rfl,rfl,rfl,rfl,hX,hT,hL,Go.Det.RI.start r c M⟩ ?_
   clear hX hT hL
   rintro m f w8 ⟨j,k,W0,l,p0,cs,ps0,rfl,hj,hf4,hf5,hf7,hf8,hf9,hf29,hf30,hX,hT,hL,hI⟩
   rw [ui hf4,ui hf5,ui hf7,ui hf8,ui hf9,ui hf29,ui hf30]
   clear hf4 hf5 hf7 hf8 hf9 hf29 hf30
   by_cases hlt:j < c
   rotate_left
   · obtain rfl:j = c:=by omega
     refine gg ?_
     exact ⟨k,rfl,hX,hI.done⟩
   have hkm:=hI.km
   have hkj:=hI.kj
   refine gg ?_
   refine W_loop (fun m f w'=>∃ i,m = r - i∧k≤i∧i≤r∧f 4 = .int .i64 ((r:Nat):Int)∧f 5 = .int .i64 ((c:Nat):Int)∧f 7 = .slice (some ⟨gO,0,none⟩) r r∧f 8 = .pointer (some ⟨gL,0,none⟩)∧f 9 = .int .i64 ((k:Nat):Int)∧f 29 = .int .i64 ((c:Nat):Int)∧f 30 = .int .i64 ((j:Nat):Int)∧f 10 = .int .i64 ((j:Nat):Int)∧f 11 = .int .i64 ((i:Nat):Int)∧Ext w w'∧TMat w' gO gE ps0 r c false (Nb N k) W0∧Bx w' gL (Nb N k) false l∧∀ a,k≤a→a < i→W0 a j = 0)
    (r - k) ⟨k,rfl,Nat.le_refl _,hkm,rfl,rfl,rfl,rfl,rfl,rfl,rfl,rfl,rfl,hX,hT,hL,fun a h1 h2=>absurd h1 (by omega)⟩ ?_
   clear hX hT hL
   rintro m f w9 ⟨i,rfl,hki,hi,hf4,hf5,hf7,hf8,hf9,hf29,hf30,hf10,hf11,hX,hT,hL,hall⟩
   rw [ui hf4,ui hf5,ui hf7,ui hf8,ui hf9,ui hf29,ui hf30,ui hf10,ui hf11]
   clear hf4 hf5 hf7 hf8 hf9 hf29 hf30 hf10 hf11
   refine W_seq ?_
   by_cases hil:i < r
   rotate_left
   · refine gg ?_
     refine ⟨_,?_,j + 1,k,W0,l,p0,cs,ps0,rfl,by omega,rfl,rfl,rfl,rfl,rfl,rfl,rfl,hX,hT,hL,hI.none hlt (fun a h1 h2=>hall a h1 (by omega))⟩
     omega
   have hNb:=Nb_big hN (show k + 1≤16 by omega)
   have hNk:=Nb_mono N k
   have hX:Ext w w9:=hX
   have k1:=hT.at hil
   obtain ⟨x,y,p1,p1',hv⟩:=hT.entry hil hlt
   refine gg ?_
   refine W_seq ?_
   refine gg ?_
   refine R1_call2 (sign_ok _ _ _ _ w9 hv.1 (by omega)) ?_
   rintro _ w_2 ⟨hE_,rfl⟩
   replace hT:=hT.ext hE_
   replace hL:=hL.ext hE_
   replace hX:=hX.trans hE_
   clear hE_
   clear k1 p1 p1'
   by_cases hz:W0 i j = 0
   · have hs:(W0 i j).sign = 0:=by rw [hz]; rfl
     refine gg ?_
     refine ⟨_,?_,i + 1,rfl,by omega,by omega,rfl,rfl,rfl,rfl,rfl,rfl,rfl,rfl,rfl,hX,hT,hL,fun a h1 h2=>?_⟩
     · omega
     · by_cases e:a = i
       · subst e; exact hz
       · exact hall a h1 (by omega)
   have hs:¬ (W0 i j).sign = 0:=fun e=>hz (Int.sign_eq_zero_iff_zero.1 e)
   have hkr:k < r:=by omega
   refine gg ?_
   refine W_seqD [(0,3),(1,3),(2,3),(3,3),(4,3),(5,3),(6,3),(7,0),(8,3),(9,3),(10,3),(11,0),(12,3),(13,2),(14,3),(15,2)] mixed (by kernel_rfl) (fun w_3 hE_ _=>?_)
   replace hT:=hT.ext hE_
   replace hL:=hL.ext hE_
   replace hX:=hX.trans hE_
   clear hE_
   have k1:=hT.at hil
   have k2:=hT.at hkr
   refine gg ?_
   refine R1_storeS (one_of rfl) (.inl rfl) rfl rfl hT.outer (by rw [arr_size]; omega) ?_
   intro w4 hB4 hC4 hs4
   rw [arr_set,show 0 + k * 1 = k by omega] at hB4
   have hk4:=kp_ch hT.outer (noInt_rows fun _ _=>⟨_,_,_,rfl⟩).noU hC4
   clear k1 k2
   refine gg ?_
   refine R1_storeS (one_of rfl) (.inl rfl) rfl rfl hB4 (by rw [arr_size]; omega) ?_
   intro w5 hB5 hC5 hs5
   rw [arr_set,show 0 + i * 1 = i by omega] at hB5
   have hk5:=kp_ch hB4 (noInt_rows fun a _=>by
    by_cases e:a = k
    · subst e; exact ⟨_,_,_,upd_self _ _ _⟩
    · exact ⟨_,_,_,upd_ne _ _ e⟩).noU hC5
   have hk_:=hk4.trans hk5
   have hC_:=hC4.trans hC5
   replace hT:=hT.swap hkr hil hC_ hk_ hB5
   replace hL:=hL.kp hk_ hC_ (by omega)
   replace hX:=hC_.ext_of hX (fun b hb=>by omega)
   replace hI:=hI.swap hki hil
   clear hk_ hC_ hk4 hk5 hC4 hC5 hB4 hB5 hs4 hs5 hv hs
   obtain ⟨W,hW'⟩ : ∃ W,W = swp2 k i W0:=⟨_,rfl⟩
   have hkk:W k j ≠ 0:=by
    rw [hW',swp2_sw]
    unfold sw
    rw [if_pos rfl]; exact hz
   rw [← hW'] at hT hI
   generalize (fun t=>ps0 (sw k i t)) = ps at hT
   generalize (fun t=>p0 (sw k i t)) = p at hI
   have hbd:∀ a b,a < r→b < c→Bd (Nb N k) (W a b):=fun a b ha hb=>hT.bd ha hb
   clear hz hW' hall
   have k1:=hT.at hkr
   refine gg ?_
   clear k1
   refine W_seqM (fun f w'=>f 4 = .int .i64 ((r:Nat):Int)∧f 5 = .int .i64 ((c:Nat):Int)∧f 7 = .slice (some ⟨gO,0,none⟩) r r∧f 8 = .pointer (some ⟨gL,0,none⟩)∧f 9 = .int .i64 ((k:Nat):Int)∧f 29 = .int .i64 ((c:Nat):Int)∧f 30 = .int .i64 ((j:Nat):Int)∧f 10 = .int .i64 ((j:Nat):Int)∧f 12 = .slice (some ⟨gE,0 + ps k * c * 2,none⟩) c c∧Ext w w'∧TMat w' gO gE ps r c false (Nb N (k + 1)) (fun a b=>if k < a∧j < b then rst k j W l a b else W a b)∧Bx w' gL (Nb N k) false l) ?_ ?_
   · refine gg ?_
     refine R1_sliceL (l:=k + 1) sl_sInt rfl rfl (by omega) ?_
     obtain ⟨vS,hvS⟩ : ∃ v,v = Value.slice (if r = k + 1 then some ⟨gO,0,none⟩ else (some (⟨gO,0,none⟩ : Addr)).map (·.add ((k + 1) * 1))) (r - (k + 1)) (r - (k + 1)):=⟨_,rfl⟩
     refine gg ?_
     rw [← hvS]
     refine W_loop (fun m f w'=>∃ q,m = r - (k + 1) - q∧q≤r - (k + 1)∧f 4 = .int .i64 ((r:Nat):Int)∧f 5 = .int .i64 ((c:Nat):Int)∧f 7 = .slice (some ⟨gO,0,none⟩) r r∧f 8 = .pointer (some ⟨gL,0,none⟩)∧f 9 = .int .i64 ((k:Nat):Int)∧f 29 = .int .i64 ((c:Nat):Int)∧f 30 = .int .i64 ((j:Nat):Int)∧f 10 = .int .i64 ((j:Nat):Int)∧f 12 = .slice (some ⟨gE,0 + ps k * c * 2,none⟩) c c∧f 69 = vS∧f 70 = .int .i64 (((r - (k + 1)):Nat):Int)∧f 71 = .int .i64 ((q:Nat):Int)∧Ext w w'∧TMat w' gO gE ps r c false (Nb N (k + 1)) (fun a b=>if k < a∧a < k + 1 + q∧j < b then rst k j W l a b else W a b)∧Bx w' gL (Nb N k) false l)
      (r - (k + 1)) ⟨0,rfl,Nat.zero_le _,rfl,rfl,rfl,rfl,rfl,rfl,rfl,rfl,rfl,rfl,rfl,rfl,hX,hT.congr hNk (fun a b _ _=>by rw [if_neg (by omega)]),hL⟩ ?_
     clear hX hT hL
     rintro m f w10 ⟨q,rfl,hq,hf4,hf5,hf7,hf8,hf9,hf29,hf30,hf10,hf12,hf69,hf70,hf71,hX,hT,hL⟩
     rw [ui hf4,ui hf5,ui hf7,ui hf8,ui hf9,ui hf29,ui hf30,ui hf10,ui hf12,ui hf69,ui hf70,ui hf71]
     clear hf4 hf5 hf7 hf8 hf9 hf29 hf30 hf10 hf12 hf69 hf70 hf71
     by_cases hql:q < r - (k + 1)
     rotate_left
     · refine gg ?_
       exact ⟨rfl,rfl,rfl,rfl,rfl,rfl,rfl,rfl,rfl,hX,hT.congr (Nat.le_refl _) (fun a b ha hb=>by
        by_cases h:k < a∧j < b
        · rw [if_pos h,if_pos (by omega)]
        · rw [if_neg h,if_neg (by omega)]),hL⟩
     have hvS':vS = .slice (some ⟨gO,0 + (k + 1) * 1,none⟩) (r - (k + 1)) (r - (k + 1)):=by
      rw [hvS,if_neg (by omega)]; rfl
     have har:k + 1 + q < r:=by omega
     have k1:=hT.at har
     rw [show 0 + (k + 1 + q) * 1 = 0 + (k + 1) * 1 + q * 1 by omega] at k1
     rw [hvS']
     refine gg ?_
     rw [← hvS']
     clear k1
     refine W_loop (fun m f w'=>∃ b,m = c - b∧j < b∧b≤c∧f 4 = .int .i64 ((r:Nat):Int)∧f 5 = .int .i64 ((c:Nat):Int)∧f 7 = .slice (some ⟨gO,0,none⟩) r r∧f 8 = .pointer (some ⟨gL,0,none⟩)∧f 9 = .int .i64 ((k:Nat):Int)∧f 29 = .int .i64 ((c:Nat):Int)∧f 30 = .int .i64 ((j:Nat):Int)∧f 10 = .int .i64 ((j:Nat):Int)∧f 12 = .slice (some ⟨gE,0 + ps k * c * 2,none⟩) c c∧f 69 = vS∧f 70 = .int .i64 (((r - (k + 1)):Nat):Int)∧f 71 = .int .i64 ((q:Nat):Int)∧f 14 = .slice (some ⟨gE,0 + ps (k + 1 + q) * c * 2,none⟩) c c∧f 15 = .int .i64 ((b:Nat):Int)∧Ext w w'∧TMat w' gO gE ps r c false (Nb N (k + 1)) (fun a b'=>if k < a∧(a < k + 1 + q ∨ a = k + 1 + q∧b' < b)∧j < b' then rst k j W l a b' else W a b')∧Bx w' gL (Nb N k) false l)
      (c - (j + 1)) ⟨j + 1,rfl,by omega,by omega,rfl,rfl,rfl,rfl,rfl,rfl,rfl,rfl,rfl,rfl,rfl,rfl,rfl,rfl,hX,hT.congr (Nat.le_refl _) (fun a b _ _=>?_),hL⟩ ?_
     · by_cases h:k < a∧a < k + 1 + q∧j < b
       · rw [if_pos h,if_pos (by omega)]
       · rw [if_neg h,if_neg (by omega)]
     clear hX hT hL
     rintro m f w11 ⟨b,rfl,hjb,hb,hf4,hf5,hf7,hf8,hf9,hf29,hf30,hf10,hf12,hf69,hf70,hf71,hf14,hf15,hX,hT,hL⟩
     rw [ui hf4,ui hf5,ui hf7,ui hf8,ui hf9,ui hf29,ui hf30,ui hf10,ui hf12,ui hf69,ui hf70,ui hf71,ui hf14,ui hf15]
     clear hf4 hf5 hf7 hf8 hf9 hf29 hf30 hf10 hf12 hf69 hf70 hf71 hf14 hf15
     refine W_seq ?_
     by_cases hbl:b < c
     rotate_left
     · refine gg ?_
       refine ⟨_,?_,q + 1,rfl,by omega,rfl,rfl,rfl,rfl,rfl,rfl,rfl,rfl,rfl,rfl,rfl,rfl,hX,hT.congr (Nat.le_refl _) (fun a b' ha hb'=>?_),hL⟩
       · omega
       · by_cases h:k < a∧a < k + 1 + (q + 1)∧j < b'
         · rw [if_pos h,if_pos (by omega)]
         · rw [if_neg h,if_neg (by omega)]
     have hX:Ext w w11:=hX
     refine gg ?_
     refine W_regD [(0,3),(1,3),(2,3),(3,3),(4,3),(5,0),(6,3),(7,3),(8,3),(9,0),(10,3),(11,3),(12,3),(13,0),(14,3),(15,3),(16,3),(17,0),(18,0),(19,1),(20,3),(21,2)] mixed (by kernel_rfl) (fun w_4 hE_ _=>?_)
     replace hT:=hT.ext hE_
     replace hL:=hL.ext hE_
     replace hX:=hX.trans hE_
     clear hE_
     obtain ⟨x1,y1,p1,p1',hv1⟩:=hT.entry (i:=k) (j:=j) hkr hlt
     obtain ⟨x2,y2,p2,p2',hv2⟩:=hT.entry (i:=k + 1 + q) (j:=j) har hlt
     obtain ⟨x3,y3,p3,p3',hv3⟩:=hT.entry (i:=k) (j:=b) hkr hbl
     obtain ⟨x4,y4,p4,p4',hv4⟩:=hT.entry (i:=k + 1 + q) (j:=b) har hbl
     rw [if_neg (by omega)] at hv1 hv2 hv3 hv4
     obtain ⟨hL_u,hL_v,hL_B,hL_V⟩:=id hL
     obtain ⟨hL_0,hL_1⟩:=blkP hL_B
     refine gg ?_
     refine R1_call1 (cross_ok _ _ _ _ _ _ _ _ _ _ _ _ _ _ _ (Nb N (k + 1)) w_4 hv1.1 hv2.1 hv3.1 hv4.1 (hL_V.1.mono hNk) (by omega) hI.ne) ?_
     rintro _ w_5 ⟨hE_,a0,a1,rfl,hcr⟩
     refine ⟨hE_,?_⟩
     replace hT:=hT.ext hE_
     replace hL:=hL.ext hE_
     replace hX:=hX.trans hE_
     clear hE_
     have hbj:Bd (Nb N (k + 1)) (rst k j W l (k + 1 + q) b):=by
      have e:Nb N (k + 1) = Nb N k + Nb N k + 1:=by simp only [Nb]; omega
      rw [e]
      exact (((hbd k j hkr hlt).mul (hbd _ b har hbl)).sub ((hbd _ j har hlt).mul (hbd k b hkr hbl))).ediv
     have hcr:CV w_5 a0 a1 (rst k j W l (k + 1 + q) b):=hcr
     clear p1 p1' p2 p2' p3 p3' p4 p4' hL_0 hL_1
     refine gg ?_
     refine R1_storeT (.inl rfl) rfl rfl hT har hbl (hcr.ev false hbj) ?_
     intro w_6 hT hC_ hk_ hs_
     replace hL:=hL.kp hk_ hC_ (by first | omega | assumption)
     replace hX:=hC_.ext_of hX (fun b hb=>by omega)
     refine gg ?_
     refine ⟨_,?_,b + 1,rfl,by omega,by omega,rfl,rfl,rfl,rfl,rfl,rfl,rfl,rfl,rfl,rfl,rfl,rfl,rfl,rfl,hX,hT.congr (Nat.le_refl _) (fun a' b' _ _=>?_),hL⟩
     · omega
     · simp only [set2]
       by_cases e:a' = k + 1 + q∧b' = b
       · rw [if_pos e,if_pos (by omega),e.1,e.2]
       · rw [if_neg e]
         by_cases h:k < a'∧(a' < k + 1 + q ∨ a' = k + 1 + q∧b' < b)∧j < b'
         · rw [if_pos h,if_pos (by omega)]
         · rw [if_neg h,if_neg (by omega)]
   clear hX hT hL
   rintro f w10 ⟨hf4,hf5,hf7,hf8,hf9,hf29,hf30,hf10,hf12,hX,hT,hL⟩
   rw [ui hf4,ui hf5,ui hf7,ui hf8,ui hf9,ui hf29,ui hf30,ui hf10,ui hf12]
   clear hf4 hf5 hf7 hf8 hf9 hf29 hf30 hf10 hf12
   have hX:Ext w w10:=hX
   obtain ⟨x1,y1,p1,p1',hv1⟩:=hT.entry (i:=k) (j:=j) hkr hlt
   rw [if_neg (by omega)] at hv1
   refine gg ?_
   refine R1_storeBx (by first | exact .inl rfl | exact .inr ⟨rfl,fun _ h=>h.mono fun b _ e=>by omega⟩) rfl rfl hL (hv1) ?_
   intro w_7 hL hC_ hk_ hs_
   replace hT:=hT.kp hk_ hC_ (by omega) (by omega)
   replace hX:=hC_.ext_of hX (fun b hb=>by omega)
   clear hC_ hk_ hs_
   refine gg ?_
   refine ⟨_,?_,j + 1,k + 1,_,W k j,p,_,ps,rfl,by omega,rfl,rfl,rfl,rfl,rfl,rfl,rfl,hX,hT,hL,hI.step hlt hkr hkk (fun a b h1 h2 h3 h4=>?_)⟩
   · omega
   · rw [if_pos ⟨h1,h3⟩]; rfl
 clear hX hT hL
 rintro f w8 ⟨k,hf9,hX,hR⟩
 rw [ui hf9]
 refine gg ?_
 exact ret2 (v:=.int _ _) (v':=.bool _) rfl rfl rfl ⟨hX,.inr ⟨hok,k,rfl,hR⟩⟩
end Go.Proofs.YtncbjgblcofddaaGreatDoor
