/- Joined: Rkp, Rkr. -/
import Derived.Test.YtncbjgblcofddaaGreatDoorQx
import Derived.Test.YtncbjgblcofddaaGreatDoorQzd
import Derived.Test.YtncbjgblcofddaaGreatDoorQw
import Derived.Test.YtncbjgblcofddaaGreatDoorQf
import Derived.Test.YtncbjgblcofddaaGreatDoorQj
/- bareiss.Rank. -/
namespace Go.Proofs.YtncbjgblcofddaaGreatDoor
open Go Go.Eng Go.Num Go.Proofs
open Go.Det (sw swp2 swp2_sw sw_sw sw_lt Rk)
set_option maxHeartbeats 8000000 in
theorem rank1_ok (i j gA r c N:Nat) (va:Value) (M:Nat→Nat→Int) (w:World) (hA:Blk w gA 22 #[va]) (ha:MatE (EI N) w va r (fun _=>c) M) (hi:i < r) (hj:j < c) :
 Meets Tryz.prog 160 #[.int .i64 ((i:Nat):Int),.int .i64 ((j:Nat):Int),.pointer (some ⟨gA,0,none⟩)] w (REV w N false (M i j)):=by
 refine fn_W (n:=13) Tryz.func160 rfl rfl (by kernel_rfl) (by simp) ?_
 refine gg ?_
 refine R1_alloc (.inl rfl) z_Int ?_
 intro w1 hB1 hE1 hs1
 have hR1:Bx w1 w.heap.size 1 false 0:=Bx.zero false hB1
 have f2:=blkS (hA.ext hE1)
 obtain ⟨ada,capa,ua,rfl,hua,hra⟩:=(ha.ext hE1).at hi
 obtain ⟨ada',capa',xa,ya,rfl,hxa,hya,hva⟩:=hra.at hj
 refine gg ?_
 refine R1_storeBx (N':=N) (.inl rfl) rfl rfl hR1 ⟨hva,fun e=>by cases e⟩ ?_
 intro w6 hR6 hC6 hk6 hs6
 refine gg ?_
 obtain ⟨x,y,hB,hv⟩:=hR6
 exact retC rfl agg_Int rfl hB ⟨hC6.ext_of hE1 (fun b hb=>by omega),x,y,rfl,hv⟩
def RRk (w:World) (ok:Bool) (r c:Nat) (M:Nat→Nat→Int) (v:Value) (w':World):Prop :=
 Ext w w'∧((ok = false∧v = .tuple #[.int .i64 ((0:Nat):Int),.bool false]) ∨ (ok = true∧∃ k,v = .tuple #[.int .i64 ((k:Nat):Int),.bool true]∧Rk r c M k))
def rst (k j:Nat) (W:Nat→Nat→Int) (l:Int) (a b:Nat):Int:=(W k j * W a b - W a j * W k b) / l
set_option maxHeartbeats 32000000 in
theorem rank_ok (va:Value) (r N:Nat) (len:Nat→Nat) (M:Nat→Nat→Int) (w:World) (ha:MatE (EI N) w va r len M) (hN1:1≤N) (hN:N < 1048576) :
 Meets Tryz.prog 108 #[va] w (RRk w (okM r len) r (len 0) M):=by
 obtain ⟨Aa,capa,hva,_⟩:=id ha
 refine fn_W (n:=112) Tryz.func108 rfl rfl (by kernel_rfl) (by simp) ?_
 refine gg ?_
 refine R1_box (v:=va) (.inl rfl) rfl ?_
 intro w1 hB1 hE1 hs1
 have hA1:Blk w1 w.heap.size 22 #[va]:=by rw [hva] at hB1 ⊢; exact hB1
 have f1:=blkS hA1
 obtain ⟨gA,hgA⟩ : ∃ g,g = w.heap.size:=⟨_,rfl⟩
 rw [← hgA] at hA1 f1 ⊢
 clear hB1
 refine gg ?_
 refine W_scope ?_
 refine gg ?_
 refine R1_call2 (shapeX_ok (EI N) _ r len M w1 (ha.ext hE1)) ?_
 rintro _ w2 ⟨rfl,rfl⟩
 by_cases hok:okM r len = true
 rotate_left
 · rw [shapeV_f hok]
   have hok:okM r len = false:=by simpa using hok
   refine gg ?_
   refine W_seq ?_
   refine gg ?_
   exact ret2 (v:=.int _ _) (v':=.bool _) rfl rfl rfl ⟨hE1,.inl ⟨hok,rfl⟩⟩
 rw [shapeV_t hok]
 obtain ⟨⟨hr1,hr2,hc1,hc2⟩,hlen⟩:=okM_iff.1 hok
 obtain ⟨c,hc⟩ : ∃ c,c = len 0:=⟨_,rfl⟩
 rw [← hc] at hc1 hc2 ⊢
 have hM:MatE (EI N) w va r (fun _=>c) M:=(ha.sq fun i hi=>by rw [hlen i hi,hc])
 refine gg ?_
 refine W_seq ?_
 refine gg ?_
 refine R1_func0 ?_
 refine gg ?_
 refine R1_call2 (table_ok r c _ N false _ M w1 (by omega) (by omega) (by omega) (fun i j hi hj w' hE'=>rank1_ok i j gA r c N va M w' (hA1.ext hE') (hM.ext (hE1.trans hE')) hi hj)) ?_
 rintro _ w5 ⟨hE5,gO,gE,rfl,hgO,hgE,hT⟩
 clear f1
 have hs01:=hE1.size
 have hX:Ext w w5:=hE1.trans hE5
 refine gg ?_
 refine R1_call2 (small_ok 1 w5 (by decide) (by decide)) ?_
 rintro _ w_1 ⟨hE_,a1,b1,rfl,hc1'⟩
 replace hT:=hT.ext hE_
 replace hX:=hX.trans hE_
 clear hE_
 have hb1:Bd N 1:=Bd.mono (N:=1) (by unfold Bd; decide) hN1
 have hO6:=hT.outer.lt
 have hF6:gE < w_1.heap.size:=by obtain ⟨_,h4,_⟩:=hT.flat; exact h4.lt
 have hs06:=hX.size
 refine gg ?_
 refine R1_alloc (.inl rfl) z_Int ?_
 intro w7a hBa_ hEa_ hsa_
 have hG0_:Bx w7a w_1.heap.size 1 true 0:=Bx.zero true hBa_
 obtain ⟨gL,hg_⟩ : ∃ g,g = w_1.heap.size:=⟨_,rfl⟩
 rw [← hg_] at hG0_ ⊢
 refine gg ?_
 refine R1_storeBx (.inl rfl) rfl rfl hG0_ ((hc1'.ext hEa_).ev true hb1) ?_
 intro w7 hL hCb_ hkb_ hsb_
 have hE7:Ext w_1 w7:=hCb_.ext_of hEa_ (fun b hb=>by omega)
 have hfr_gL:w_1.heap.size≤gL:=by omega
 clear hG0_ hBa_ hEa_ hsa_ hsb_ hCb_ hkb_ hg_
 replace hT:=hT.ext hE7
 replace hX:=hX.trans hE7
 have hgNL:gL ≠ gO∧gL ≠ gE:=by omega
 have hge:w.heap.size≤gO∧w.heap.size≤gE∧w.heap.size≤gL:=by omega
 have hEO:=hT.ne
 have hL:Bx w7 gL N false 1:=by
  obtain ⟨x,y,q1,q2⟩:=hL
  exact ⟨x,y,q1,q2.1,fun e=>by cases e⟩
 clear hc1' hb1 hO6 hF6 hE7 hE5 hE1 hA1 hfr_gL ha hgO hgE hs06 hs01
 refine gg ?_
 refine W_seq (W_label ?_)
 refine gg ?_
 refine W_seqM (fun f w'=>∃ k,f 9 = .int .i64 ((k:Nat):Int)∧Ext w w'∧Rk r c M k) ?_ ?_
 · refine gg ?_
   refine W_loop (fun m f w'=>∃ j k W l p cs ps,m = c - j∧j≤c∧f 4 = .int .i64 ((r:Nat):Int)∧f 5 = .int .i64 ((c:Nat):Int)∧f 7 = .slice (some ⟨gO,0,none⟩) r r∧f 8 = .pointer (some ⟨gL,0,none⟩)∧f 9 = .int .i64 ((k:Nat):Int)∧f 29 = .int .i64 ((c:Nat):Int)∧f 30 = .int .i64 ((j:Nat):Int)∧Ext w w'∧TMat w' gO gE ps r c false (Nb N k) W∧Bx w' gL (Nb N k) false l∧Go.Det.RI r c j k M W l p cs)
    c ⟨0,0,M,1,id,id,fun i=>i,rfl,Nat.zero_le _,rfl,rfl,rfl,rfl,rfl,rfl,rfl,hX,hT,hL,Go.Det.RI.start r c M⟩ ?_
   clear hX hT hL
   rintro m f w8 ⟨j,k,W0,l,p0,cs,ps0,rfl,hj,hf4,hf5,hf7,hf8,hf9,hf29,hf30,hX,hT,hL,hI⟩
   rw [ui hf4,ui hf5,ui hf7,ui hf8,ui hf9,ui hf29,ui hf30]
   clear hf4 hf5 hf7 hf8 hf9 hf29 hf30
   by_cases hlt:j < c
   rotate_left
   · obtain rfl:j = c:=by omega
     refine gg ?_
     exact ⟨k,rfl,hX,hI.done⟩
   have hkm:=hI.km
   have hkj:=hI.kj
   refine gg ?_
   refine W_loop (fun m f w'=>∃ i,m = r - i∧k≤i∧i≤r∧f 4 = .int .i64 ((r:Nat):Int)∧f 5 = .int .i64 ((c:Nat):Int)∧f 7 = .slice (some ⟨gO,0,none⟩) r r∧f 8 = .pointer (some ⟨gL,0,none⟩)∧f 9 = .int .i64 ((k:Nat):Int)∧f 29 = .int .i64 ((c:Nat):Int)∧f 30 = .int .i64 ((j:Nat):Int)∧f 10 = .int .i64 ((j:Nat):Int)∧f 11 = .int .i64 ((i:Nat):Int)∧Ext w w'∧TMat w' gO gE ps0 r c false (Nb N k) W0∧Bx w' gL (Nb N k) false l∧∀ a,k≤a→a < i→W0 a j = 0)
    (r - k) ⟨k,rfl,Nat.le_refl _,hkm,rfl,rfl,rfl,rfl,rfl,rfl,rfl,rfl,rfl,hX,hT,hL,fun a h1 h2=>absurd h1 (by omega)⟩ ?_
   clear hX hT hL
   rintro m f w9 ⟨i,rfl,hki,hi,hf4,hf5,hf7,hf8,hf9,hf29,hf30,hf10,hf11,hX,hT,hL,hall⟩
   rw [ui hf4,ui hf5,ui hf7,ui hf8,ui hf9,ui hf29,ui hf30,ui hf10,ui hf11]
   clear hf4 hf5 hf7 hf8 hf9 hf29 hf30 hf10 hf11
   refine W_seq ?_
   by_cases hil:i < r
   rotate_left
   · refine gg ?_
     refine ⟨_,?_,j + 1,k,W0,l,p0,cs,ps0,rfl,by omega,rfl,rfl,rfl,rfl,rfl,rfl,rfl,hX,hT,hL,hI.none hlt (fun a h1 h2=>hall a h1 (by omega))⟩
     omega
   have hNb:=Nb_big hN (show k + 1≤16 by omega)
   have hNk:=Nb_mono N k
   have hX:Ext w w9:=hX
   have k1:=hT.at hil
   obtain ⟨x,y,p1,p1',hv⟩:=hT.entry hil hlt
   refine gg ?_
   refine W_seq ?_
   refine gg ?_
   refine R1_call2 (sign_ok _ _ _ _ w9 hv.1 (by omega)) ?_
   rintro _ w_2 ⟨hE_,rfl⟩
   replace hT:=hT.ext hE_
   replace hL:=hL.ext hE_
   replace hX:=hX.trans hE_
   clear hE_
   clear k1 p1 p1'
   by_cases hz:W0 i j = 0
   · have hs:(W0 i j).sign = 0:=by rw [hz]; rfl
     refine gg ?_
     refine ⟨_,?_,i + 1,rfl,by omega,by omega,rfl,rfl,rfl,rfl,rfl,rfl,rfl,rfl,rfl,hX,hT,hL,fun a h1 h2=>?_⟩
     · omega
     · by_cases e:a = i
       · subst e; exact hz
       · exact hall a h1 (by omega)
   have hs:¬ (W0 i j).sign = 0:=fun e=>hz (Int.sign_eq_zero_iff_zero.1 e)
   have hkr:k < r:=by omega
   refine gg ?_
   refine W_seqD [(0,3),(1,3),(2,3),(3,3),(4,3),(5,3),(6,3),(7,0),(8,3),(9,3),(10,3),(11,0),(12,3),(13,2),(14,3),(15,2)] mixed (by kernel_rfl) (fun w_3 hE_ _=>?_)
   replace hT:=hT.ext hE_
   replace hL:=hL.ext hE_
   replace hX:=hX.trans hE_
   clear hE_
   have k1:=hT.at hil
   have k2:=hT.at hkr
   refine gg ?_
   refine R1_storeS (one_of rfl) (.inl rfl) rfl rfl hT.outer (by rw [arr_size]; omega) ?_
   intro w4 hB4 hC4 hs4
   rw [arr_set,show 0 + k * 1 = k by omega] at hB4
   have hk4:=kp_ch hT.outer (noInt_rows fun _ _=>⟨_,_,_,rfl⟩).noU hC4
   clear k1 k2
   refine gg ?_
   refine R1_storeS (one_of rfl) (.inl rfl) rfl rfl hB4 (by rw [arr_size]; omega) ?_
   intro w5 hB5 hC5 hs5
   rw [arr_set,show 0 + i * 1 = i by omega] at hB5
   have hk5:=kp_ch hB4 (noInt_rows fun a _=>by
    by_cases e:a = k
    · subst e; exact ⟨_,_,_,upd_self _ _ _⟩
    · exact ⟨_,_,_,upd_ne _ _ e⟩).noU hC5
   have hk_:=hk4.trans hk5
   have hC_:=hC4.trans hC5
   replace hT:=hT.swap hkr hil hC_ hk_ hB5
   replace hL:=hL.kp hk_ hC_ (by omega)
   replace hX:=hC_.ext_of hX (fun b hb=>by omega)
   replace hI:=hI.swap hki hil
   clear hk_ hC_ hk4 hk5 hC4 hC5 hB4 hB5 hs4 hs5 hv hs
   obtain ⟨W,hW'⟩ : ∃ W,W = swp2 k i W0:=⟨_,rfl⟩
   have hkk:W k j ≠ 0:=by
    rw [hW',swp2_sw]
    unfold sw
    rw [if_pos rfl]; exact hz
   rw [← hW'] at hT hI
   generalize (fun t=>ps0 (sw k i t)) = ps at hT
   generalize (fun t=>p0 (sw k i t)) = p at hI
   have hbd:∀ a b,a < r→b < c→Bd (Nb N k) (W a b):=fun a b ha hb=>hT.bd ha hb
   clear hz hW' hall
   have k1:=hT.at hkr
   refine gg ?_
   clear k1
   refine W_seqM (fun f w'=>f 4 = .int .i64 ((r:Nat):Int)∧f 5 = .int .i64 ((c:Nat):Int)∧f 7 = .slice (some ⟨gO,0,none⟩) r r∧f 8 = .pointer (some ⟨gL,0,none⟩)∧f 9 = .int .i64 ((k:Nat):Int)∧f 29 = .int .i64 ((c:Nat):Int)∧f 30 = .int .i64 ((j:Nat):Int)∧f 10 = .int .i64 ((j:Nat):Int)∧f 12 = .slice (some ⟨gE,0 + ps k * c * 2,none⟩) c c∧Ext w w'∧TMat w' gO gE ps r c false (Nb N (k + 1)) (fun a b=>if k < a∧j < b then rst k j W l a b else W a b)∧Bx w' gL (Nb N k) false l) ?_ ?_
   · refine gg ?_
     refine R1_sliceL (l:=k + 1) sl_sInt rfl rfl (by omega) ?_
     obtain ⟨vS,hvS⟩ : ∃ v,v = Value.slice (if r = k + 1 then some ⟨gO,0,none⟩ else (some (⟨gO,0,none⟩ : Addr)).map (·.add ((k + 1) * 1))) (r - (k + 1)) (r - (k + 1)):=⟨_,rfl⟩
     refine gg ?_
     rw [← hvS]
     refine W_loop (fun m f w'=>∃ q,m = r - (k + 1) - q∧q≤r - (k + 1)∧f 4 = .int .i64 ((r:Nat):Int)∧f 5 = .int .i64 ((c:Nat):Int)∧f 7 = .slice (some ⟨gO,0,none⟩) r r∧f 8 = .pointer (some ⟨gL,0,none⟩)∧f 9 = .int .i64 ((k:Nat):Int)∧f 29 = .int .i64 ((c:Nat):Int)∧f 30 = .int .i64 ((j:Nat):Int)∧f 10 = .int .i64 ((j:Nat):Int)∧f 12 = .slice (some ⟨gE,0 + ps k * c * 2,none⟩) c c∧f 69 = vS∧f 70 = .int .i64 (((r - (k + 1)):Nat):Int)∧f 71 = .int .i64 ((q:Nat):Int)∧Ext w w'∧TMat w' gO gE ps r c false (Nb N (k + 1)) (fun a b=>if k < a∧a < k + 1 + q∧j < b then rst k j W l a b else W a b)∧Bx w' gL (Nb N k) false l)
      (r - (k + 1)) ⟨0,rfl,Nat.zero_le _,rfl,rfl,rfl,rfl,rfl,rfl,rfl,rfl,rfl,rfl,rfl,rfl,hX,hT.congr hNk (fun a b _ _=>by rw [if_neg (by omega)]),hL⟩ ?_
     clear hX hT hL
     rintro m f w10 ⟨q,rfl,hq,hf4,hf5,hf7,hf8,hf9,hf29,hf30,hf10,hf12,hf69,hf70,hf71,hX,hT,hL⟩
     rw [ui hf4,ui hf5,ui hf7,ui hf8,ui hf9,ui hf29,ui hf30,ui hf10,ui hf12,ui hf69,ui hf70,ui hf71]
     clear hf4 hf5 hf7 hf8 hf9 hf29 hf30 hf10 hf12 hf69 hf70 hf71
     by_cases hql:q < r - (k + 1)
     rotate_left
     · refine gg ?_
       exact ⟨rfl,rfl,rfl,rfl,rfl,rfl,rfl,rfl,rfl,hX,hT.congr (Nat.le_refl _) (fun a b ha hb=>by
        by_cases h:k < a∧j < b
        · rw [if_pos h,if_pos (by omega)]
        · rw [if_neg h,if_neg (by omega)]),hL⟩
     have hvS':vS = .slice (some ⟨gO,0 + (k + 1) * 1,none⟩) (r - (k + 1)) (r - (k + 1)):=by
      rw [hvS,if_neg (by omega)]; rfl
     have har:k + 1 + q < r:=by omega
     have k1:=hT.at har
     rw [show 0 + (k + 1 + q) * 1 = 0 + (k + 1) * 1 + q * 1 by omega] at k1
     rw [hvS']
     refine gg ?_
     rw [← hvS']
     clear k1
     refine W_loop (fun m f w'=>∃ b,m = c - b∧j < b∧b≤c∧f 4 = .int .i64 ((r:Nat):Int)∧f 5 = .int .i64 ((c:Nat):Int)∧f 7 = .slice (some ⟨gO,0,none⟩) r r∧f 8 = .pointer (some ⟨gL,0,none⟩)∧f 9 = .int .i64 ((k:Nat):Int)∧f 29 = .int .i64 ((c:Nat):Int)∧f 30 = .int .i64 ((j:Nat):Int)∧f 10 = .int .i64 ((j:Nat):Int)∧f 12 = .slice (some ⟨gE,0 + ps k * c * 2,none⟩) c c∧f 69 = vS∧f 70 = .int .i64 (((r - (k + 1)):Nat):Int)∧f 71 = .int .i64 ((q:Nat):Int)∧f 14 = .slice (some ⟨gE,0 + ps (k + 1 + q) * c * 2,none⟩) c c∧f 15 = .int .i64 ((b:Nat):Int)∧Ext w w'∧TMat w' gO gE ps r c false (Nb N (k + 1)) (fun a b'=>if k < a∧(a < k + 1 + q ∨ a = k + 1 + q∧b' < b)∧j < b' then rst k j W l a b' else W a b')∧Bx w' gL (Nb N k) false l)
      (c - (j + 1)) ⟨j + 1,rfl,by omega,by omega,rfl,rfl,rfl,rfl,rfl,rfl,rfl,rfl,rfl,rfl,rfl,rfl,rfl,rfl,hX,hT.congr (Nat.le_refl _) (fun a b _ _=>?_),hL⟩ ?_
     · by_cases h:k < a∧a < k + 1 + q∧j < b
       · rw [if_pos h,if_pos (by omega)]
       · rw [if_neg h,if_neg (by omega)]
     clear hX hT hL
     rintro m f w11 ⟨b,rfl,hjb,hb,hf4,hf5,hf7,hf8,hf9,hf29,hf30,hf10,hf12,hf69,hf70,hf71,hf14,hf15,hX,hT,hL⟩
     rw [ui hf4,ui hf5,ui hf7,ui hf8,ui hf9,ui hf29,ui hf30,ui hf10,ui hf12,ui hf69,ui hf70,ui hf71,ui hf14,ui hf15]
     clear hf4 hf5 hf7 hf8 hf9 hf29 hf30 hf10 hf12 hf69 hf70 hf71 hf14 hf15
     refine W_seq ?_
     by_cases hbl:b < c
     rotate_left
     · refine gg ?_
       refine ⟨_,?_,q + 1,rfl,by omega,rfl,rfl,rfl,rfl,rfl,rfl,rfl,rfl,rfl,rfl,rfl,rfl,hX,hT.congr (Nat.le_refl _) (fun a b' ha hb'=>?_),hL⟩
       · omega
       · by_cases h:k < a∧a < k + 1 + (q + 1)∧j < b'
         · rw [if_pos h,if_pos (by omega)]
         · rw [if_neg h,if_neg (by omega)]
     have hX:Ext w w11:=hX
     refine gg ?_
     refine W_regD [(0,3),(1,3),(2,3),(3,3),(4,3),(5,0),(6,3),(7,3),(8,3),(9,0),(10,3),(11,3),(12,3),(13,0),(14,3),(15,3),(16,3),(17,0),(18,0),(19,1),(20,3),(21,2)] mixed (by kernel_rfl) (fun w_4 hE_ _=>?_)
     replace hT:=hT.ext hE_
     replace hL:=hL.ext hE_
     replace hX:=hX.trans hE_
     clear hE_
     obtain ⟨x1,y1,p1,p1',hv1⟩:=hT.entry (i:=k) (j:=j) hkr hlt
     obtain ⟨x2,y2,p2,p2',hv2⟩:=hT.entry (i:=k + 1 + q) (j:=j) har hlt
     obtain ⟨x3,y3,p3,p3',hv3⟩:=hT.entry (i:=k) (j:=b) hkr hbl
     obtain ⟨x4,y4,p4,p4',hv4⟩:=hT.entry (i:=k + 1 + q) (j:=b) har hbl
     rw [if_neg (by omega)] at hv1 hv2 hv3 hv4
     obtain ⟨hL_u,hL_v,hL_B,hL_V⟩:=id hL
     obtain ⟨hL_0,hL_1⟩:=blkP hL_B
     refine gg ?_
     refine R1_call1 (cross_ok _ _ _ _ _ _ _ _ _ _ _ _ _ _ _ (Nb N (k + 1)) w_4 hv1.1 hv2.1 hv3.1 hv4.1 (hL_V.1.mono hNk) (by omega) hI.ne) ?_
     rintro _ w_5 ⟨hE_,a0,a1,rfl,hcr⟩
     refine ⟨hE_,?_⟩
     replace hT:=hT.ext hE_
     replace hL:=hL.ext hE_
     replace hX:=hX.trans hE_
     clear hE_
     have hbj:Bd (Nb N (k + 1)) (rst k j W l (k + 1 + q) b):=by
      have e:Nb N (k + 1) = Nb N k + Nb N k + 1:=by simp only [Nb]; omega
      rw [e]
      exact (((hbd k j hkr hlt).mul (hbd _ b har hbl)).sub ((hbd _ j har hlt).mul (hbd k b hkr hbl))).ediv
     have hcr:CV w_5 a0 a1 (rst k j W l (k + 1 + q) b):=hcr
     clear p1 p1' p2 p2' p3 p3' p4 p4' hL_0 hL_1
     refine gg ?_
     refine R1_storeT (.inl rfl) rfl rfl hT har hbl (hcr.ev false hbj) ?_
     intro w_6 hT hC_ hk_ hs_
     replace hL:=hL.kp hk_ hC_ (by first | omega | assumption)
     replace hX:=hC_.ext_of hX (fun b hb=>by omega)
     refine gg ?_
     refine ⟨_,?_,b + 1,rfl,by omega,by omega,rfl,rfl,rfl,rfl,rfl,rfl,rfl,rfl,rfl,rfl,rfl,rfl,rfl,rfl,hX,hT.congr (Nat.le_refl _) (fun a' b' _ _=>?_),hL⟩
     · omega
     · simp only [set2]
       by_cases e:a' = k + 1 + q∧b' = b
       · rw [if_pos e,if_pos (by omega),e.1,e.2]
       · rw [if_neg e]
         by_cases h:k < a'∧(a' < k + 1 + q ∨ a' = k + 1 + q∧b' < b)∧j < b'
         · rw [if_pos h,if_pos (by omega)]
         · rw [if_neg h,if_neg (by omega)]
   clear hX hT hL
   rintro f w10 ⟨hf4,hf5,hf7,hf8,hf9,hf29,hf30,hf10,hf12,hX,hT,hL⟩
   rw [ui hf4,ui hf5,ui hf7,ui hf8,ui hf9,ui hf29,ui hf30,ui hf10,ui hf12]
   clear hf4 hf5 hf7 hf8 hf9 hf29 hf30 hf10 hf12
   have hX:Ext w w10:=hX
   obtain ⟨x1,y1,p1,p1',hv1⟩:=hT.entry (i:=k) (j:=j) hkr hlt
   rw [if_neg (by omega)] at hv1
   refine gg ?_
   refine R1_storeBx (by first | exact .inl rfl | exact .inr ⟨rfl,fun _ h=>h.mono fun b _ e=>by omega⟩) rfl rfl hL (hv1) ?_
   intro w_7 hL hC_ hk_ hs_
   replace hT:=hT.kp hk_ hC_ (by omega) (by omega)
   replace hX:=hC_.ext_of hX (fun b hb=>by omega)
   clear hC_ hk_ hs_
   refine gg ?_
   refine ⟨_,?_,j + 1,k + 1,_,W k j,p,_,ps,rfl,by omega,rfl,rfl,rfl,rfl,rfl,rfl,rfl,hX,hT,hL,hI.step hlt hkr hkk (fun a b h1 h2 h3 h4=>?_)⟩
   · omega
   · rw [if_pos ⟨h1,h3⟩]; rfl
 clear hX hT hL
 rintro f w8 ⟨k,hf9,hX,hR⟩
 rw [ui hf9]
 refine gg ?_
 exact ret2 (v:=.int _ _) (v':=.bool _) rfl rfl rfl ⟨hX,.inr ⟨hok,k,rfl,hR⟩⟩
end Go.Proofs.YtncbjgblcofddaaGreatDoor
namespace Go.Proofs.YtncbjgblcofddaaGreatDoor
open Go Go.Eng Go.Num Go.Proofs
open Go.Det (sw swp2 swp2_sw sw_sw sw_lt Rk)
set_option maxHeartbeats 8000000 in
theorem pivot_ok (v:Value) (r c N k:Nat) (M:Nat→Nat→Int) (w:World) (h:MatE (EI N) w v r (fun _=>c) M) (hk:k≤r) (hc:k≤c) (hr:r≤16) (hc2:c≤16) (hN:N < 1099511627776) :
 Meets Tryz.prog 165 #[v,.int .i64 ((k:Nat):Int)] w fun u w'=>Ext w w'∧((∃ i j,u = .tuple #[.int .i64 ((i:Nat):Int),.int .i64 ((j:Nat):Int),.bool true]∧k≤i∧i < r∧k≤j∧j < c∧M i j ≠ 0) ∨ (u = .tuple #[.int .i64 ((0:Nat):Int),.int .i64 ((0:Nat):Int),.bool false]∧∀ i j,k≤i→i < r→k≤j→j < c→M i j = 0)):=by
 obtain ⟨Av,capv,hv,_⟩:=id h
 refine fn_W (n:=37) Tryz.func165 rfl rfl (by kernel_rfl) (by simp) ?_
 refine gg ?_
 refine W_seqM (fun f w'=>Ext w w'∧∀ i j,k≤i→i < r→k≤j→j < c→M i j = 0) ?_ ?_
 · refine gg ?_
   refine W_loop (fun m f w'=>∃ i,m = r - i∧k≤i∧i≤r∧f 0 = v∧f 1 = .int .i64 ((k:Nat):Int)∧f 7 = .int .i64 ((i:Nat):Int)∧Ext w w'∧∀ a b,k≤a→a < i→k≤b→b < c→M a b = 0)
    (r - k) ⟨k,rfl,Nat.le_refl _,hk,rfl,rfl,rfl,Ext.refl _,fun a b h1 h2=>absurd h1 (by omega)⟩ ?_
   rintro m f w1 ⟨i,rfl,hki,hi,hf0,hf1,hf7,hX,hall⟩
   rw [ui hf0,ui hf1,ui hf7]
   clear hf0 hf1 hf7
   refine W_seq ?_
   by_cases hil:i < r
   rotate_left
   · rw [hv]
     refine gg ?_
     exact ⟨hX,fun a b h1 h2=>hall a b h1 (by omega)⟩
   rw [hv]
   refine gg ?_
   rw [← hv]
   refine W_loop (fun m f w'=>∃ j,m = c - j∧k≤j∧j≤c∧f 0 = v∧f 1 = .int .i64 ((k:Nat):Int)∧f 7 = .int .i64 ((i:Nat):Int)∧f 8 = .int .i64 ((j:Nat):Int)∧Ext w w'∧∀ b,k≤b→b < j→M i b = 0)
    (c - k) ⟨k,rfl,Nat.le_refl _,hc,rfl,rfl,rfl,rfl,hX,fun b h1 h2=>absurd h1 (by omega)⟩ ?_
   clear hX
   rintro m f w2 ⟨j,rfl,hkj,hj,hf0,hf1,hf7,hf8,hX,hrow⟩
   rw [ui hf0,ui hf1,ui hf7,ui hf8]
   clear hf0 hf1 hf7 hf8
   refine W_seq ?_
   obtain ⟨ad,cap,u,hva,hcu,hru⟩:=(h.ext hX).at hil
   rw [hva]
   by_cases hjl:j < c
   rotate_left
   · obtain ⟨A',c',hu,_⟩:=id hru
     rw [hu] at hcu
     refine gg ?_
     rw [← hva]
     refine ⟨_,?_,i + 1,rfl,by omega,by omega,rfl,rfl,rfl,hX,fun a b h1 h2 h3 h4=>?_⟩
     · omega
     · by_cases e:a = i
       · subst e; exact hrow b h3 (by omega)
       · exact hall a b h1 (by omega) h3 h4
   obtain ⟨ad',cap',e0,e1,rfl,hce0,hce1,hev⟩:=hru.at hjl
   refine gg ?_
   refine R1_call2 (rsign_ok _ _ _ N w2 hev hN) ?_
   rintro _ w3 ⟨hE3,rfl⟩
   clear hcu hce0 hce1
   by_cases hz:M i j = 0
   · have hs:(M i j).sign = 0:=by rw [hz]; rfl
     refine gg ?_
     rw [← hva]
     refine ⟨_,?_,j + 1,rfl,by omega,by omega,rfl,rfl,rfl,rfl,hX.trans hE3,fun b h1 h2=>?_⟩
     · omega
     · by_cases e:b = j
       · subst e; exact hz
       · exact hrow b h1 (by omega)
   · have hs:¬ (M i j).sign = 0:=fun e=>hz (Int.sign_eq_zero_iff_zero.1 e)
     refine gg ?_
     exact ret3 (v:=.int _ _) (v':=.int _ _) (v'':=.bool _) rfl rfl rfl rfl ⟨hX.trans hE3,.inl ⟨i,j,rfl,hki,hil,hkj,hjl,hz⟩⟩
 rintro f w1 ⟨hX,hall⟩
 refine gg ?_
 exact ret3 (v:=.int _ _) (v':=.int _ _) (v'':=.bool _) rfl rfl rfl rfl ⟨hX,.inr ⟨rfl,hall⟩⟩
theorem swp_sw {α:Type} (k p:Nat) (M:Nat→α):swp k p M = fun i=>M (sw k p i):=by
 funext i
 unfold swp sw
 split
 · rfl
 · split <;> rfl
set_option maxHeartbeats 32000000 in
theorem rrank_ok (va:Value) (r N:Nat) (len:Nat→Nat) (M:Nat→Nat→Int) (w:World) (ha:MatE (EI N) w va r len M) (hN1:1≤N) (hN:N < 1048576) :
 Meets Tryz.prog 112 #[va] w (RRk w (okM r len) r (len 0) M):=by
 refine fn_W (n:=150) Tryz.func112 rfl rfl (by kernel_rfl) (by simp) ?_
 have hX:Ext w w:=Ext.refl w
 refine gg ?_
 refine W_seq ?_
 refine gg ?_
 refine R1_call2 (rshape_ok (EI N) _ r len M w ha) ?_
 rintro _ w_1 ⟨hE_,rfl⟩
 replace hX:=hX.trans hE_
 clear hE_
 by_cases hok:okM r len = true
 rotate_left
 · rw [shapeV_f hok]
   have hok:okM r len = false:=by simpa using hok
   refine gg ?_
   exact ret2 (v:=.int _ _) (v':=.bool _) rfl rfl rfl ⟨hX,.inl ⟨hok,rfl⟩⟩
 rw [shapeV_t hok]
 obtain ⟨⟨hr1,hr2,hc1,hc2⟩,hlen⟩:=okM_iff.1 hok
 obtain ⟨c,hc⟩ : ∃ c,c = len 0:=⟨_,rfl⟩
 rw [← hc] at hc1 hc2 ⊢
 have hM:MatE (EI N) w va r (fun _=>c) M:=(ha.sq fun i hi=>by rw [hlen i hi,hc])
 have hsz1:=hX.size
 refine gg ?_
 refine R1_call2 (rcopy_ok _ r c N M w_1 (hM.ext hX) (by omega) hc1 (by omega) (by omega)) ?_
 rintro _ w_2 ⟨hE_,gO,gs,cp,rfl,hgO,hgs0,hgs1,hW⟩
 replace hX:=hX.trans hE_
 clear hE_
 have hgO:w.heap.size≤gO:=by omega
 have hgl:∀ i,i < r→gs i < w_2.heap.size:=fun i hi=>(hW.row i hi).lt
 have hgl0:=hW.lt
 refine gg ?_
 refine R1_call2 (rsmall_ok 1 w_2 (by decide) (by decide)) ?_
 rintro _ w_3 ⟨hE_,a1,b1,rfl,hc1'⟩
 replace hW:=hW.ext hE_
 replace hX:=hX.trans hE_
 clear hE_
 have hb1:Bd N 1:=Bd.mono (N:=1) (by unfold Bd; decide) hN1
 have hsX:=hX.size
 have hsX2:=hW.lt
 have hgl2:∀ i,i < r→gs i < w_3.heap.size:=fun i hi=>(hW.row i hi).lt
 refine gg ?_
 refine R1_alloc (.inl rfl) z_Int ?_
 intro w7a hBa_ hEa_ hsa_
 have hG0_:Bx w7a w_3.heap.size 1 true 0:=Bx.zero true hBa_
 obtain ⟨gL,hg_⟩ : ∃ g,g = w_3.heap.size:=⟨_,rfl⟩
 rw [← hg_] at hG0_ ⊢
 refine gg ?_
 refine R1_storeBx (.inl rfl) rfl rfl hG0_ ((hc1'.ext hEa_).ev true hb1) ?_
 intro w7 hL hCb_ hkb_ hsb_
 have hE7:Ext w_3 w7:=hCb_.ext_of hEa_ (fun b hb=>by omega)
 have hfr_gL:w_3.heap.size≤gL:=by omega
 clear hG0_ hBa_ hEa_ hsa_ hsb_ hCb_ hkb_ hg_
 replace hW:=hW.ext hE7
 replace hX:=hX.trans hE7
 have hgs:∀ i,i < r→gO < gs i∧gs i < gL:=fun i hi=>⟨hgs1 i hi,by have:=hgl2 i hi; omega⟩
 have hgOL:gO < gL:=by omega
 clear hc1' hb1 hE7 ha hgs0 hgs1 hgl hgl0 hgl2 hsX hsX2 hsz1
 refine gg ?_
 refine W_loop (fun m f w'=>∃ k W l p cs gs cp,m = r - k∧f 7 = .slice (some ⟨gO,0,none⟩) r r∧f 8 = .pointer (some ⟨gL,0,none⟩)∧f 9 = .int .i64 ((k:Nat):Int)∧Ext w w'∧GMat w' gO gs cp r c true (fun _ _=>Nb N k) W∧(∀ i,i < r→gO < gs i∧gs i < gL)∧Bx w' gL (Nb N k) true l∧Go.Det.RF r c k M W l p cs)
  r ⟨0,M,1,id,id,gs,cp,rfl,rfl,rfl,rfl,hX,hW,hgs,hL,Go.Det.RF.start r c M⟩ ?_
 clear hX hW hL hgs gs cp
 rintro m f w8 ⟨k,W0,l,p0,cs0,gs0,cp0,rfl,hf7,hf8,hf9,hX,hW,hgs0,hL,hI⟩
 rw [ui hf7,ui hf8,ui hf9]
 clear hf7 hf8 hf9
 have hkr:=hI.km
 have hkc:=hI.kn
 have hNb0:=Nb_big hN (show k≤16 by omega)
 have hX:Ext w w8:=hX
 refine gg ?_
 refine R1_call2 (pivot_ok _ r c (Nb N k) k W0 w8 (hW.read (by omega) (by omega)) hkr hkc hr2 hc2 (by omega)) ?_
 rintro _ w9 ⟨hE9,⟨p,q,rfl,hkp,hp,hkq,hq,hz⟩ | ⟨rfl,hall⟩⟩
 rotate_left
 · refine gg ?_
   refine W_seq ?_
   refine gg ?_
   exact ret2 (v:=.int _ _) (v':=.bool _) rfl rfl rfl ⟨hX.trans hE9,.inr ⟨hok,k,rfl,hI.done hall⟩⟩
 replace hX:=hX.trans hE9
 replace hW:=hW.ext hE9
 replace hL:=hL.ext hE9
 have hkr:k < r:=by omega
 have hkc:k < c:=by omega
 have hNb:=Nb_big hN (show k + 1≤16 by omega)
 have hNk:=Nb_mono N k
 refine gg ?_
 refine W_seq ?_
 refine gg ?_
 refine gg ?_
 refine W_seqD [(0,3),(1,3),(2,3),(3,3),(4,3),(5,3),(6,3),(7,0),(8,3),(9,3),(10,3),(11,0),(12,3),(13,2),(14,3),(15,2)] mixed (by kernel_rfl) (fun w_4 hE_ _=>?_)
 replace hW:=hW.ext hE_
 replace hL:=hL.ext hE_
 replace hX:=hX.trans hE_
 clear hE_
 have hxp:=hW.at hp
 have hxk:=hW.at hkr
 have hO3:=hW.outer
 refine gg ?_
 refine R1_storeS (one_of rfl) (.inl rfl) rfl rfl hO3 (by rw [arr_size]; omega) ?_
 intro w4 hO4 hC4 hs4
 rw [arr_set] at hO4
 refine gg ?_
 refine R1_storeS (one_of rfl) (.inl rfl) rfl rfl hO4 (by rw [arr_size]; omega) ?_
 intro w5 hO5 hC5 hs5
 rw [arr_set] at hO5
 have hC_:=hC4.trans hC5
 have hk_:=kp_ch hO3 hW.noInt.noU hC_
 have e:upd (upd (fun i=>Value.slice (some ⟨gs0 i,0,none⟩) c (cp0 i)) (0 + p * 1) (.slice (some ⟨gs0 k,0,none⟩) c (cp0 k))) (0 + k * 1) (.slice (some ⟨gs0 p,0,none⟩) c (cp0 p)) = fun i=>Value.slice (some ⟨swp k p gs0 i,0,none⟩) c (swp k p cp0 i):=by
  funext i
  rw [Nat.zero_add,Nat.zero_add,Nat.mul_one,Nat.mul_one]
  simp only [swp]
  by_cases h2:i = k
  · subst h2; rw [upd_self,if_pos rfl,if_pos rfl]
  · rw [upd_ne _ _ h2,if_neg h2,if_neg h2]
    by_cases h1:i = p
    · subst h1; rw [upd_self,if_pos rfl,if_pos rfl]
    · rw [upd_ne _ _ h1,if_neg h1,if_neg h1]
 rw [e] at hO5
 replace hW:=hW.swap hkr hp hC_ hk_ hO5
 rw [swp_sw k p W0] at hW
 replace hL:=hL.kp hk_ hC_ (by omega)
 replace hX:=hC_.ext_of hX (fun b hb=>by omega)
 have hgs:∀ i,i < r→gO < swp k p gs0 i∧swp k p gs0 i < gL:=fun i hi=>by
  rw [swp_sw]; exact hgs0 _ (sw_lt hkr hp hi)
 generalize swp k p gs0 = gs at hW hgs
 generalize swp k p cp0 = cp at hW
 clear hxp hxk hO3 hO4 hO5 hC4 hC5 hC_ hk_ e hs4 hs5
 refine gg ?_
 refine W_seqM (fun f w'=>f 7 = .slice (some ⟨gO,0,none⟩) r r∧f 8 = .pointer (some ⟨gL,0,none⟩)∧f 9 = .int .i64 ((k:Nat):Int)∧f 10 = .int .i64 ((p:Nat):Int)∧f 11 = .int .i64 ((q:Nat):Int)∧Ext w w'∧GMat w' gO gs cp r c true (fun _ _=>Nb N k) (fun i t=>W0 (sw k p i) (sw k q t))∧Bx w' gL (Nb N k) true l) ?_ ?_
 · refine gg ?_
   refine W_loop (fun m f w'=>∃ i,m = r - i∧i≤r∧f 7 = .slice (some ⟨gO,0,none⟩) r r∧f 8 = .pointer (some ⟨gL,0,none⟩)∧f 9 = .int .i64 ((k:Nat):Int)∧f 10 = .int .i64 ((p:Nat):Int)∧f 11 = .int .i64 ((q:Nat):Int)∧f 54 = .int .i64 ((r:Nat):Int)∧f 55 = .int .i64 ((i:Nat):Int)∧Ext w w'∧GMat w' gO gs cp r c true (fun _ _=>Nb N k) (fun a t=>if a < i then W0 (sw k p a) (sw k q t) else W0 (sw k p a) t)∧Bx w' gL (Nb N k) true l)
    r ⟨0,rfl,Nat.zero_le _,rfl,rfl,rfl,rfl,rfl,rfl,rfl,hX,hW.congr (fun a b _ _=>⟨Nat.le_refl _,by rw [if_neg (by omega)]⟩),hL⟩ ?_
   clear hX hW hL
   rintro m f w10 ⟨i,rfl,hi,hf7,hf8,hf9,hf10,hf11,hf54,hf55,hX,hW,hL⟩
   rw [ui hf7,ui hf8,ui hf9,ui hf10,ui hf11,ui hf54,ui hf55]
   clear hf7 hf8 hf9 hf10 hf11 hf54 hf55
   by_cases hil:i < r
   rotate_left
   · refine gg ?_
     exact ⟨rfl,rfl,rfl,rfl,rfl,hX,hW.congr (fun a b ha hb=>⟨Nat.le_refl _,by rw [if_pos (by omega)]⟩),hL⟩
   have hX:Ext w w10:=hX
   refine gg ?_
   refine gg ?_
   refine W_regD [(0,3),(1,3),(2,3),(3,0),(4,3),(5,3),(6,3),(7,3),(8,0),(9,3),(10,3),(11,3),(12,3),(13,0),(14,3),(15,3),(16,0),(17,3),(18,3),(19,3),(20,0),(21,3),(22,3),(23,0),(24,3),(25,2),(26,3),(27,2)] mixed (by kernel_rfl) (fun w_5 hE_ _=>?_)
   replace hW:=hW.ext hE_
   replace hL:=hL.ext hE_
   replace hX:=hX.trans hE_
   clear hE_
   have hoi:=hW.at hil
   obtain ⟨x0,y0,hx0,hy0,hv0⟩:=(hW.row i hil).at hkc
   obtain ⟨x1,y1,hx1,hy1,hv1⟩:=(hW.row i hil).at hq
   rw [if_neg (by omega)] at hv0 hv1
   have hgi:=hgs i hil
   refine gg ?_
   refine R1_storeG (.inl rfl) rfl rfl (hW.row i hil) hq hv0 ?_
   intro w11 hR hC_ hk_ hs_
   replace hW:=hW.put hil hR hC_ hk_
   replace hL:=hL.kp hk_ hC_ (by omega)
   replace hX:=hC_.ext_of hX (fun b hb=>by omega)
   replace hv1:=hv1.kp hk_
   clear hR hC_ hk_ hs_ hv0
   refine gg ?_
   refine R1_storeG (.inl rfl) rfl rfl (hW.row i hil) hkc hv1 ?_
   intro w12 hR hC_ hk_ hs_
   replace hW:=hW.put hil hR hC_ hk_
   replace hL:=hL.kp hk_ hC_ (by omega)
   replace hX:=hC_.ext_of hX (fun b hb=>by omega)
   clear hR hC_ hk_ hs_
   refine gg ?_
   refine ⟨_,?_,i + 1,rfl,hil,rfl,rfl,rfl,rfl,rfl,rfl,rfl,hX,hW.congr (fun a b ha hb=>⟨?_,?_⟩),hL⟩
   · omega
   · simp only [set2]
     split
     · exact Nat.le_refl _
     · split <;> exact Nat.le_refl _
   · simp only [set2]
     by_cases ea:a = i
     · subst ea
       rw [if_pos (show a < a + 1 by omega)]
       by_cases eb:b = k
       · subst eb
         rw [if_pos ⟨rfl,rfl⟩]
         unfold sw
         rw [if_pos (show b = b from rfl)]
       · rw [if_neg (fun h=>eb h.2)]
         by_cases eq:b = q
         · subst eq
           rw [if_pos ⟨rfl,rfl⟩]
           rw [show sw k b b = k by unfold sw; rw [if_neg eb,if_pos rfl]]
         · rw [if_neg (fun h=>eq h.2),if_neg (show ¬ a < a by omega)]
           rw [show sw k q b = b by unfold sw; rw [if_neg eb,if_neg eq]]
     · rw [if_neg (fun h=>ea h.1),if_neg (fun h=>ea h.1)]
       by_cases h:a < i
       · rw [if_pos h,if_pos (by omega)]
       · rw [if_neg h,if_neg (by omega)]
 clear hX hW hL
 rintro f w10 ⟨hf7,hf8,hf9,hf10,hf11,hX,hW,hL⟩
 rw [ui hf7,ui hf8,ui hf9,ui hf10,ui hf11]
 clear hf7 hf8 hf9 hf10 hf11
 replace hI:=hI.swap hkp hp hkq hq
 obtain ⟨W,hWd⟩ : ∃ W:Nat→Nat→Int,W = fun i t=>W0 (sw k p i) (sw k q t):=⟨_,rfl⟩
 rw [← hWd] at hI hW
 have hkk:W k k ≠ 0:=by
  rw [hWd]
  show W0 (sw k p k) (sw k q k) ≠ 0
  rw [show sw k p k = p by unfold sw; rw [if_pos rfl],show sw k q k = q by unfold sw; rw [if_pos rfl]]
  exact hz
 have hbd:∀ a b,a < r→b < c→Bd (Nb N k) (W a b):=fun a b ha hb=>by
  obtain ⟨x,y,_,_,hv⟩:=(hW.row a ha).at hb
  exact hv.bd
 clear hWd
 refine W_seqM (fun f w'=>f 7 = .slice (some ⟨gO,0,none⟩) r r∧f 8 = .pointer (some ⟨gL,0,none⟩)∧f 9 = .int .i64 ((k:Nat):Int)∧f 10 = .int .i64 ((p:Nat):Int)∧f 11 = .int .i64 ((q:Nat):Int)∧Ext w w'∧GMat w' gO gs cp r c true (fun _ _=>Nb N (k + 1)) (fun a b=>if k < a∧k < b then rst k k W l a b else W a b)∧Bx w' gL (Nb N k) true l) ?_ ?_
 · refine gg ?_
   refine W_loop (fun m f w'=>∃ i,m = r - i∧k < i∧i≤r∧f 7 = .slice (some ⟨gO,0,none⟩) r r∧f 8 = .pointer (some ⟨gL,0,none⟩)∧f 9 = .int .i64 ((k:Nat):Int)∧f 10 = .int .i64 ((p:Nat):Int)∧f 11 = .int .i64 ((q:Nat):Int)∧f 14 = .int .i64 ((i:Nat):Int)∧Ext w w'∧GMat w' gO gs cp r c true (fun _ _=>Nb N (k + 1)) (fun a b=>if k < a∧a < i∧k < b then rst k k W l a b else W a b)∧Bx w' gL (Nb N k) true l)
    (r - (k + 1)) ⟨k + 1,rfl,by omega,by omega,rfl,rfl,rfl,rfl,rfl,rfl,hX,hW.congr (fun a b _ _=>⟨hNk,by rw [if_neg (by omega)]⟩),hL⟩ ?_
   clear hX hW hL
   rintro m f w11 ⟨i,rfl,hki,hi,hf7,hf8,hf9,hf10,hf11,hf14,hX,hW,hL⟩
   rw [ui hf7,ui hf8,ui hf9,ui hf10,ui hf11,ui hf14]
   clear hf7 hf8 hf9 hf10 hf11 hf14
   refine W_seq ?_
   by_cases hil:i < r
   rotate_left
   · refine gg ?_
     exact ⟨rfl,rfl,rfl,rfl,rfl,hX,hW.congr (fun a b ha hb=>⟨Nat.le_refl _,by
      by_cases h:k < a∧k < b
      · rw [if_pos h,if_pos (by omega)]
      · rw [if_neg h,if_neg (by omega)]⟩),hL⟩
   refine gg ?_
   refine W_loop (fun m f w'=>∃ j,m = c - j∧k < j∧j≤c∧f 7 = .slice (some ⟨gO,0,none⟩) r r∧f 8 = .pointer (some ⟨gL,0,none⟩)∧f 9 = .int .i64 ((k:Nat):Int)∧f 10 = .int .i64 ((p:Nat):Int)∧f 11 = .int .i64 ((q:Nat):Int)∧f 14 = .int .i64 ((i:Nat):Int)∧f 15 = .int .i64 ((j:Nat):Int)∧Ext w w'∧GMat w' gO gs cp r c true (fun _ _=>Nb N (k + 1)) (fun a b=>if k < a∧(a < i ∨ a = i∧b < j)∧k < b then rst k k W l a b else W a b)∧Bx w' gL (Nb N k) true l)
    (c - (k + 1)) ⟨k + 1,rfl,by omega,by omega,rfl,rfl,rfl,rfl,rfl,rfl,rfl,hX,hW.congr (fun a b _ _=>⟨Nat.le_refl _,?_⟩),hL⟩ ?_
   · by_cases h:k < a∧a < i∧k < b
     · rw [if_pos h,if_pos (by omega)]
     · rw [if_neg h,if_neg (by omega)]
   clear hX hW hL
   rintro m f w12 ⟨j,rfl,hkj,hj,hf7,hf8,hf9,hf10,hf11,hf14,hf15,hX,hW,hL⟩
   rw [ui hf7,ui hf8,ui hf9,ui hf10,ui hf11,ui hf14,ui hf15]
   clear hf7 hf8 hf9 hf10 hf11 hf14 hf15
   refine W_seq ?_
   by_cases hjl:j < c
   rotate_left
   · have hoi:=hW.at hil
     refine gg ?_
     refine ⟨_,?_,i + 1,rfl,by omega,by omega,rfl,rfl,rfl,rfl,rfl,rfl,hX,hW.congr (fun a b ha hb=>⟨Nat.le_refl _,?_⟩),hL⟩
     · omega
     · by_cases h:k < a∧a < i + 1∧k < b
       · rw [if_pos h,if_pos (by omega)]
       · rw [if_neg h,if_neg (by omega)]
   have hoi:=hW.at hil
   refine gg ?_
   clear hoi
   have hX:Ext w w12:=hX
   refine gg ?_
   refine W_regD [(0,3),(1,3),(2,3),(3,0),(4,3),(5,3),(6,3),(7,3),(8,0),(9,3),(10,3),(11,0),(12,3),(13,3),(14,3),(15,0),(16,3),(17,3),(18,0),(20,3),(21,3),(22,3),(23,0),(24,3),(25,3),(26,0),(27,3),(28,3),(29,3),(30,0),(31,3),(32,3),(33,0),(36,0),(19,1),(34,1),(35,1),(37,1),(38,3),(39,2)] mixed (by kernel_rfl) (fun w_6 hE_ _=>?_)
   replace hW:=hW.ext hE_
   replace hL:=hL.ext hE_
   replace hX:=hX.trans hE_
   clear hE_
   have hoi:=hW.at hil
   have hok':=hW.at hkr
   obtain ⟨x0,y0,hx0,hy0,hv0⟩:=(hW.row k hkr).at hkc
   obtain ⟨x1,y1,hx1,hy1,hv1⟩:=(hW.row i hil).at hjl
   obtain ⟨x2,y2,hx2,hy2,hv2⟩:=(hW.row i hil).at hkc
   obtain ⟨x3,y3,hx3,hy3,hv3⟩:=(hW.row k hkr).at hjl
   rw [if_neg (by omega)] at hv0 hv1 hv2 hv3
   have m1:=(hbd k k hkr hkc).mul (hbd i j hil hjl)
   have m2:=(hbd i k hil hkc).mul (hbd k j hkr hjl)
   have m3:=m1.sub m2
   have e3:Nb N k + Nb N k + 1 = Nb N (k + 1):=by simp only [Nb]; omega
   rw [e3] at m3
   obtain ⟨hL_u,hL_v,hL_B,hL_V⟩:=id hL
   obtain ⟨hL_0,hL_1⟩:=blkP hL_B
   refine gg ?_
   refine R1_call1 (rmul_ok _ _ _ _ _ _ (Nb N (k + 1)) w_6 hv0.1 hv1.1 (by omega)) ?_
   rintro _ w_7 ⟨hE_,a1,b1,rfl,hc1'⟩
   refine ⟨hE_,?_⟩
   replace hW:=hW.ext hE_
   replace hL:=hL.ext hE_
   replace hv0:=hv0.ext hE_
   replace hv1:=hv1.ext hE_
   replace hv2:=hv2.ext hE_
   replace hv3:=hv3.ext hE_
   replace hL_V:=hL_V.ext hE_
   replace hX:=hX.trans hE_
   clear hE_
   refine gg ?_
   refine R1_call1 (rmul_ok _ _ _ _ _ _ (Nb N (k + 1)) w_7 hv2.1 hv3.1 (by omega)) ?_
   rintro _ w_8 ⟨hE_,a2,b2,rfl,hc2'⟩
   refine ⟨hE_,?_⟩
   replace hW:=hW.ext hE_
   replace hL:=hL.ext hE_
   replace hv0:=hv0.ext hE_
   replace hv1:=hv1.ext hE_
   replace hv2:=hv2.ext hE_
   replace hv3:=hv3.ext hE_
   replace hL_V:=hL_V.ext hE_
   replace hc1':=hc1'.ext hE_
   replace hX:=hX.trans hE_
   clear hE_
   refine gg ?_
   refine R1_call1 (rsub_ok _ _ _ _ _ _ (Nb N k + Nb N k) w_8 (hc1'.iv m1) (hc2'.iv m2) (by omega)) ?_
   rintro _ w_9 ⟨hE_,a3,b3,rfl,hc3'⟩
   refine ⟨hE_,?_⟩
   replace hW:=hW.ext hE_
   replace hL:=hL.ext hE_
   replace hv0:=hv0.ext hE_
   replace hv1:=hv1.ext hE_
   replace hv2:=hv2.ext hE_
   replace hv3:=hv3.ext hE_
   replace hL_V:=hL_V.ext hE_
   replace hc1':=hc1'.ext hE_
   replace hc2':=hc2'.ext hE_
   replace hX:=hX.trans hE_
   clear hE_
   refine gg ?_
   refine R1_call1 (rquo_ok _ _ _ _ _ _ (Nb N (k + 1)) w_9 (hc3'.iv m3) ((hL_V.mono hNk).1) (by omega)) ?_
   rintro _ w_10 ⟨hE_,a4,b4,rfl,hq'⟩
   refine ⟨hE_,?_⟩
   replace hW:=hW.ext hE_
   replace hL:=hL.ext hE_
   replace hv0:=hv0.ext hE_
   replace hv1:=hv1.ext hE_
   replace hv2:=hv2.ext hE_
   replace hv3:=hv3.ext hE_
   replace hL_V:=hL_V.ext hE_
   replace hc1':=hc1'.ext hE_
   replace hc2':=hc2'.ext hE_
   replace hc3':=hc3'.ext hE_
   replace hX:=hX.trans hE_
   clear hE_
   clear hoi hok' hx0 hx1 hx2 hx3 hy0 hy1 hy2 hy3 hL_0 hL_1
   have hgi:=hgs i hil
   refine gg ?_
   refine R1_storeG (.inl rfl) rfl rfl (hW.row i hil) hjl (hq'.ev true (N:=Nb N (k + 1)) m3.ediv) ?_
   intro w13 hR hC_ hk_ hs_
   replace hW:=hW.put hil hR hC_ hk_
   replace hL:=hL.kp hk_ hC_ (by omega)
   replace hX:=hC_.ext_of hX (fun b hb=>by omega)
   refine gg ?_
   refine ⟨_,?_,j + 1,rfl,by omega,by omega,rfl,rfl,rfl,rfl,rfl,rfl,rfl,hX,hW.congr (fun a b ha hb=>⟨?_,?_⟩),hL⟩
   · omega
   · simp only [set2]
     split <;> exact Nat.le_refl _
   · simp only [set2]
     by_cases e:a = i∧b = j
     · obtain ⟨rfl,rfl⟩:=e
       rw [if_pos ⟨rfl,rfl⟩,if_pos (by omega)]; rfl
     · rw [if_neg e]
       by_cases h1:k < a∧(a < i ∨ a = i∧b < j)∧k < b
       · rw [if_pos h1,if_pos (by omega)]
       · rw [if_neg h1,if_neg (by omega)]
 clear hX hW hL
 rintro f w11 ⟨hf7,hf8,hf9,hf10,hf11,hX,hW,hL⟩
 rw [ui hf7,ui hf8,ui hf9,ui hf10,ui hf11]
 clear hf7 hf8 hf9 hf10 hf11
 have hok':=hW.at hkr
 obtain ⟨x0,y0,hx0,hy0,hv0⟩:=(hW.row k hkr).at hkc
 rw [if_neg (by omega)] at hv0
 have hX:Ext w w11:=hX
 refine gg ?_
 refine R1_storeBx (by first | exact .inl rfl | exact .inr ⟨rfl,fun _ h=>h.mono fun b _ e=>by omega⟩) rfl rfl hL (hv0) ?_
 intro w_11 hL hC_ hk_ hs_
 replace hW:=hW.kp hk_ hC_ (by omega) (fun i hi=>by have:=hgs i hi; omega)
 replace hX:=hC_.ext_of hX (fun b hb=>by omega)
 clear hC_ hk_ hs_
 refine gg ?_
 refine ⟨_,?_,k + 1,_,W k k,_,_,gs,cp,rfl,rfl,rfl,rfl,hX,hW,hgs,hL,hI.step hkr hkc hkk (fun a b h1 h2 h3 h4=>?_)⟩
 · omega
 · rw [if_pos ⟨h1,h3⟩]; rfl
end Go.Proofs.YtncbjgblcofddaaGreatDoor
