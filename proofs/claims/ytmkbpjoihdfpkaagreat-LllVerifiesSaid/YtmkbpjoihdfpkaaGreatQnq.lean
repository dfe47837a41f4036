/- Joined: Lyg. -/
import Derived.Test.YtmkbpjoihdfpkaaGreatQno
/- The law LllVerifies. -/
namespace Go.Proofs.YtmkbpjoihdfpkaaGreat
open Go Go.Eng Go.Num Go.Proofs
open Go.Det (gr bm det Sy PM Red one)
theorem MatZ.take {w:World} {A:Option Addr} {r cap k:Nat} {len:Nat→Nat} {M:Nat→Nat→Int} (h:MatZ w (.slice A r cap) r len M) (hk:k≤r):MatZ w (.slice A k cap) k len M:=by
 obtain ⟨A',cap',e,h1,h2,h3⟩:=h
 injection e with e1 _ e3
 subst e1 e3
 exact ⟨_,_,rfl,by omega,h2,fun i hi=>h3 i (by omega)⟩
theorem MatE.take {E:World→Value→Value→Int→Prop} {w:World} {A:Option Addr} {r cap k:Nat} {len:Nat→Nat} {M:Nat→Nat→Int} (h:MatE E w (.slice A r cap) r len M) (hk:k≤r):MatE E w (.slice A k cap) k len M:=by
 obtain ⟨A',cap',e,h1,h2,h3⟩:=h
 injection e with e1 _ e3
 subst e1 e3
 exact ⟨_,_,rfl,by omega,h2,fun i hi=>h3 i (by omega)⟩
theorem blk_ne {w:World} {g g' T T':Nat} {cs cs':Array Value} (h:Blk w g T cs) (h':Blk w g' T' cs') (hT:T ≠ T'):g ≠ g':=fun e=>by
 subst e
 unfold Blk at h h'
 rw [h] at h'
 injection h' with h'
 injection h' with _ h' _
 exact hT h'
set_option maxHeartbeats 32000000 in
theorem lawLllVerifies {v vw va vc:Value} {dm kd q m what at':Nat} {c:Int} {ns ms:Nat→Int} {w:World} (h:LatV w v dm kd q ns m ms) (hwh:ByteV vw what) (ha:ByteV va at') (hcc:I8V vc c) :
 Meets Tryz.prog 12 #[v,vw,va,vc] w (Law w):=by
 obtain ⟨A,cap,A',cap',rfl,hd,hk,hc,hc',hN,hN'⟩:=h
 obtain ⟨rfl,hwl⟩:=hwh
 obtain ⟨rfl,hat⟩:=ha
 obtain ⟨rfl,hcl1,hcl2⟩:=hcc
 have hL:=LatV.agg hd hk hc hc' hN hN'
 refine fn_W (n:=125) Tryz.func12 rfl rfl (by kernel_rfl) (by simp) ?_
 have hdm:=Nat.mod_lt dm (show 0 < 4 by decide)
 obtain ⟨n,hn⟩ : ∃ n,n = 1 + dm % 4:=⟨_,rfl⟩
 have hn1:1≤n:=by omega
 have hn8:n≤8:=by omega
 have hX:Ext w w:=Ext.refl w
 refine gh ?_
 refine R1_box (v:=.agg _) (.inl rfl) rfl ?_
 intro w_1 hB0_ hE_ hs_
 have hX1:Blk w_1 w.heap.size 27 #[.int .u8 ((dm:Nat):Int),.int .u8 ((kd:Nat):Int),.slice A q cap,.slice A' m cap']:=hB0_
 obtain ⟨gX,hg_⟩ : ∃ g,g = w.heap.size:=⟨_,rfl⟩
 rw [← hg_] at hX1 ⊢
 have hfr_gX:w.heap.size≤gX:=by have:=hX.size; omega
 replace hX:=hX.trans hE_
 clear hB0_ hs_ hg_ hE_
 obtain ⟨x0,x1,x2,x3⟩:=blkQ hX1
 refine gh ?_
 refine R1_load4F (by decide) agg_Lat rfl x0 x1 x2 x3 ?_
 clear x0 x1 x2 x3
 have hs1:=hX.size
 refine gh ?_
 refine R1_call2 (latRaw_ok _ dm kd q m 4 ns ms w_1 (hL w_1 hX) (by decide) (by decide)) ?_
 rintro _ w_2 ⟨hE_,gA,gsA,M,rfl,hgA,hgsA,hO,h0,hdet,bM⟩
 replace hX1:=hX1.ext hE_
 replace hX:=hX.trans hE_
 clear hE_
 rw [← hn] at hO h0 hdet bM hgsA ⊢
 have hA:=hO.rd bM (Nat.le_refl _) (by omega) (by omega)
 have hsA:=hX.size
 have hwA:w.heap.size≤gA∧∀ i,i < n→w.heap.size≤gsA i:=by
  have h1:=hX1.lt
  refine ⟨by omega,fun i hi=>?_⟩
  have:=hgsA i hi
  omega
 obtain ⟨w2,hw2⟩ : ∃ w2,w2 = w_2:=⟨_,rfl⟩
 rw [← hw2] at hX hO hA ⊢
 clear hX1 hw2 hgA hgsA hsA
 refine gh ?_
 refine R1_call2 (rReduce_ok _ n 5 (fun _=>n) M w2 hA (by decide) (by decide)) ?_
 rintro _ w3 ⟨hE3,⟨h1,_⟩ | ⟨_,h1,_⟩ | ⟨_,_,T,gO,gs,gT,gsT,rfl,hgO,hgs,hZ,hgT,hgsT,hT,hF⟩⟩
 · exact absurd h0 h1
 · omega
 obtain ⟨K,hK⟩ : ∃ K,K = 15 * Nb 5 8 + 12:=⟨_,rfl⟩
 have hKl:K≤30000:=by rw [hK]; simp only [Nb]; omega
 have hK5:12≤K:=by omega
 rw [← hK] at hF
 have bT:∀ i j,i < n→j < n→Bd K (T j i):=fun i j hi hj=>hF.bd j i hj hi
 have hsm:=hF.small
 have hWT:WMat w3 gT gsT n n true (fun _ _=>K) (fun i j=>T j i):=hT.wm true bT
 have hWA:WMat w3 gA gsA n n true (fun _ _=>5) M:=(hO.wm true bM).ext hE3
 have hlA:gA < w2.heap.size∧∀ i,i < n→gsA i < w2.heap.size:=⟨hO.outer.lt,fun i hi=>(hO.row i hi).lt⟩
 have hX3:=hX.trans hE3
 have hsz:=hX.size
 generalize gr n T M = H at hZ hsm
 clear hF hT hO hA h0 hdet bT
 refine gh ?_
 have hi:=Nat.mod_lt at' hn1
 have hj:=Nat.mod_lt (at' / 16) hn1
 obtain ⟨i,hie⟩ : ∃ i,i = at' % n:=⟨_,rfl⟩
 obtain ⟨j,hje⟩ : ∃ j,j = at' / 16 % n:=⟨_,rfl⟩
 refine W_seqD [(0,3),(1,3),(2,3),(3,3),(4,3),(5,3),(6,3),(7,3),(8,3),(9,3),(10,3),(11,3),(12,3)] mixed (by kernel_rfl) (fun w4 hE4 _=>?_)
 replace hX3:=hX3.trans hE4
 replace hZ:=hZ.ext hE4
 replace hWT:=hWT.ext hE4
 replace hWA:=hWA.ext hE4
 have hE24:=hE3.trans hE4
 clear hE3 hE4
 refine gh ?_
 refine R1_rem_i64 rfl rfl hn1 ?_
 refine gh ?_
 refine R1_quo_i64_c rfl (by omega) (by decide) ?_
 refine gh ?_
 refine R1_rem_i64 rfl rfl hn1 ?_
 rw [show at' / OfNat.ofNat 16 % n = j from hje.symm,show at' % n = i from hie.symm]
 rw [← hie] at hi
 rw [← hje] at hj
 clear hie hje
 have hHr:=hZ.read (fun i j hi hj=>by have:=hsm i j hi hj; omega) (by omega) (by omega)
 have hTr:=hWT.read (by omega) (by omega)
 have hAr:=(hWA.read (by omega) (by omega)).mono (show 5≤K by omega)
 have htl:=tmod_lim (a:=c) (b:=2) (by decide)
 have bc:Bd 1 (c.tmod 2):=by unfold Bd B; omega
 have ne1:∀ a b,a < n→b < n→gs a ≠ gsT b:=fun a b ha hb=>by
  obtain ⟨hh,hB,_⟩:=hWT.row b hb
  exact blk_ne (hZ.row a ha) hB (by decide)
 have ne2:∀ b,b < n→gO ≠ gsT b:=fun b hb=>by
  obtain ⟨hh,hB,_⟩:=hWT.row b hb
  exact blk_ne hZ.outer hB (by decide)
 have ne3:∀ a,a < n→gs a ≠ gT:=fun a ha=>blk_ne (hZ.row a ha) hWT.outer (by decide)
 refine gh ?_
 refine W_seqM (fun f w'=>∃ va vh vt r2 r3 G2 H2 T2,f 9 = va∧f 10 = vh∧f 11 = vt∧Ext w w'∧MatE (EI (K + 1)) w' va n (fun _=>n) G2∧MatZ w' vh r2 (fun _=>n) H2∧MatE (EI (K + 1)) w' vt r3 (fun _=>n) T2) ?_ ?_
 · refine gh ?_
   refine R1_rem_u8L (b:=6) rfl rfl (by decide) ?_
   obtain ⟨kk,hkk⟩ : ∃ kk,kk = what % 6:=⟨_,rfl⟩
   rw [show what % 6 = kk from hkk.symm]
   have hkl:kk < 6:=by omega
   clear hkk
   refine gh ?_
   have:kk = 0 ∨ kk = 1 ∨ kk = 2 ∨ kk = 3 ∨ kk = 4 ∨ kk = 5:=by omega
   rcases this with rfl | rfl | rfl | rfl | rfl | rfl
   · refine R1_eql_u8_c rfl ?_
     refine gh ?_
     refine W_regD [(0,3),(1,3),(2,3),(3,0),(4,3),(5,3),(6,3),(7,3),(8,0),(9,3),(10,3),(11,0),(12,3),(13,3),(14,3),(15,1),(16,1),(17,3),(18,2)] mixed (by kernel_rfl) (fun w8 hE8 _=>?_)
     have hW8:=hWA.ext hE8
     have hx1:=hW8.at hi
     obtain ⟨ex,ey,p1,p2,hev⟩:=(hW8.row i hi).at hj
     have hv5:=hev.iv
     refine gh ?_
     refine R1_rem_i8 (b:=2) rfl rfl (by decide) ?_
     refine gh ?_
     refine R1_i8_i64 ty_i8 ty_i64 rfl (by omega) (by omega) ?_
     refine gh ?_
     refine R1_call1 (rsmall_ok (c.tmod 2) w8 (by omega) (by omega)) ?_
     rintro _ w9 ⟨hE9,z0,z1,rfl,hs0⟩
     refine ⟨hE9,?_⟩
     refine gh ?_
     refine R1_call1 (radd_ok _ _ _ _ _ _ 5 w9 (hv5.ext hE9) (hs0.iv (bc.mono (by omega))) (by omega)) ?_
     rintro _ w10 ⟨hE10,z2,z3,rfl,hs2⟩
     refine ⟨hE10,?_⟩
     have hE410:=hE8.trans (hE9.trans hE10)
     have hW10:=hWA.ext hE410
     have bsum:=(IV.bd hv5).add (bc.mono (show 1≤5 by omega))
     refine gh ?_
     refine R1_storeE (.inl rfl) rfl rfl (hW10.row i hi) hj (hs2.ev true bsum) ?_
     intro w11 hr11 hC11 hk11 hs11
     have hW11:=(hW10.put hi hr11 hC11 hk11).congr (bn':=fun _ _=>5 + 1) (M':=set2 M i j (M i j + c.tmod 2)) fun a b _ _=>⟨by unfold set2; split <;> simp,rfl⟩
     have hgi:=hwA.2 i hi
     have hli:=hlA.2 i hi
     have hZ11:=(hZ.ext hE410).ch hC11 (by omega) (fun t ht=>by have:=hgs t ht; omega)
     have hT11:=(hWT.ext hE410).kp hk11 hC11 (by omega) (fun t ht=>by have:=hgsT t ht; omega)
     refine gh ?_
     exact ⟨_,_,_,n,n,_,H,_,rfl,rfl,rfl,hC11.ext_of (hX3.trans hE410) (fun b hb=>by omega),(hW11.read (by omega) (by omega)).mono (by omega),hZ11.read (fun i j hi hj=>by have:=hsm i j hi hj; omega) (by omega) (by omega),(hT11.read (by omega) (by omega)).mono (by omega)⟩
   · refine R1_eql_u8_c rfl ?_
     refine gh ?_
     refine R1_eql_u8_c rfl ?_
     refine gh ?_
     have hx1:=hZ.at hi
     have hx2:=(hZ.row i hi).at hj
     have hHij:=hsm i j hi hj
     refine gh ?_
     refine R1_rem_i8 (b:=2) rfl rfl (by decide) ?_
     refine gh ?_
     refine R1_i8_i64 ty_i8 ty_i64 rfl (by omega) (by omega) ?_
     refine gh ?_
     refine R1_storeI (one_of rfl) (.inl rfl) rfl rfl (hZ.row i hi) (by rw [arr_size]; omega) ?_
     intro w8 hB8 hC8 hs8
     have hk8:=kp_ch (hZ.row i hi) noU_rowW hC8
     have hZ8:=hZ.put hi (RowW.set hB8) hC8
     have hgi:=hgs i hi
     have hgj:=hgs j hj
     have hA8:=hWA.kp hk8 hC8 (by omega) (fun t ht=>by have:=hlA.2 t ht; omega)
     have hT8:=hWT.kp hk8 hC8 (fun e=>ne3 i hi e.symm) (fun t ht e=>ne1 i t hi ht e.symm)
     have hX8:Ext w w8:=hC8.ext_of hX3 (fun b hb=>by omega)
     have hH8:∀ a b,a < n→b < n→-1000000 < set2 H i j (H i j + c.tmod 2) a b∧set2 H i j (H i j + c.tmod 2) a b < 1000000:=fun a b ha hb=>by
      have:=hsm a b ha hb
      unfold set2
      split <;> omega
     generalize set2 H i j (H i j + c.tmod 2) = H8 at hZ8 hH8
     clear hx1 hx2 hZ hWA hWT hX3 hC8 hk8 hB8
     refine gh ?_
     refine W_regD [(0,3),(1,3),(2,3),(3,0),(4,3),(5,3),(6,3),(7,3),(8,0),(9,3),(10,3),(11,0),(12,3),(13,2)] mixed (by kernel_rfl) (fun w9 hE9 _=>?_)
     have hZ9:=hZ8.ext hE9
     have hx1:=hZ9.at hi
     have hx2:=hZ9.at hj
     have hx3:=(hZ9.row i hi).at hj
     refine gh ?_
     refine R1_storeI (one_of rfl) (.inl rfl) rfl rfl (hZ9.row j hj) (by rw [arr_size]; omega) ?_
     intro w10 hB10 hC10 hs10
     have hk10:=kp_ch (hZ9.row j hj) noU_rowW hC10
     have hZ10:=hZ9.put hj (RowW.set hB10) hC10
     have hA10:=(hA8.ext hE9).kp hk10 hC10 (by omega) (fun t ht=>by have:=hlA.2 t ht; omega)
     have hT10:=(hT8.ext hE9).kp hk10 hC10 (fun e=>ne3 j hj e.symm) (fun t ht e=>ne1 j t hj ht e.symm)
     have hH8ij:=hH8 i j hi hj
     refine gh ?_
     exact ⟨_,_,_,n,n,M,_,_,rfl,rfl,rfl,hC10.ext_of (hX8.trans hE9) (fun b hb=>by omega),(hA10.read (by omega) (by omega)).mono (by omega),hZ10.read (fun a b ha hb=>by (have:=hH8 a b ha hb; unfold set2; split <;> omega)) (by omega) (by omega),(hT10.read (by omega) (by omega)).mono (by omega)⟩
   · refine R1_eql_u8_c rfl ?_
     refine gh ?_
     refine R1_eql_u8_c rfl ?_
     refine gh ?_
     refine R1_eql_u8_c rfl ?_
     refine gh ?_
     refine W_regD [(0,3),(1,3),(2,3),(3,0),(4,3),(5,3),(6,3),(7,3),(8,0),(9,3),(10,3),(11,0),(12,3),(13,3),(14,3),(15,1),(16,1),(17,3),(18,2)] mixed (by kernel_rfl) (fun w8 hE8 _=>?_)
     have hW8:=hWT.ext hE8
     have hx1:=hW8.at hi
     obtain ⟨ex,ey,p1,p2,hev⟩:=(hW8.row i hi).at hj
     have hv5:=hev.iv
     refine gh ?_
     refine R1_rem_i8 (b:=2) rfl rfl (by decide) ?_
     refine gh ?_
     refine R1_i8_i64 ty_i8 ty_i64 rfl (by omega) (by omega) ?_
     refine gh ?_
     refine R1_call1 (rsmall_ok (c.tmod 2) w8 (by omega) (by omega)) ?_
     rintro _ w9 ⟨hE9,z0,z1,rfl,hs0⟩
     refine ⟨hE9,?_⟩
     refine gh ?_
     refine R1_call1 (radd_ok _ _ _ _ _ _ K w9 (hv5.ext hE9) (hs0.iv (bc.mono (by omega))) (by omega)) ?_
     rintro _ w10 ⟨hE10,z2,z3,rfl,hs2⟩
     refine ⟨hE10,?_⟩
     have hE410:=hE8.trans (hE9.trans hE10)
     have hW10:=hWT.ext hE410
     have bsum:=(IV.bd hv5).add (bc.mono (show 1≤K by omega))
     refine gh ?_
     refine R1_storeE (.inl rfl) rfl rfl (hW10.row i hi) hj (hs2.ev true bsum) ?_
     intro w11 hr11 hC11 hk11 hs11
     have hW11:=(hW10.put hi hr11 hC11 hk11).congr (bn':=fun _ _=>K + 1) (M':=set2 (fun i j=>T j i) i j ((fun i j=>T j i) i j + c.tmod 2)) fun a b _ _=>⟨by unfold set2; split <;> simp,rfl⟩
     have hgi:=hgsT i hi
     have hZ11:=(hZ.ext hE410).ch hC11 (fun e=>ne2 i hi e) (fun t ht e=>ne1 t i ht hi e)
     have hA11:=(hWA.ext hE410).kp hk11 hC11 (by omega) (fun t ht=>by have:=hlA.2 t ht; omega)
     refine gh ?_
     exact ⟨_,_,_,n,n,M,H,_,rfl,rfl,rfl,hC11.ext_of (hX3.trans hE410) (fun b hb=>by omega),(hA11.read (by omega) (by omega)).mono (by omega),hZ11.read (fun i j hi hj=>by have:=hsm i j hi hj; omega) (by omega) (by omega),hW11.read (by omega) (by omega)⟩
   · refine R1_eql_u8_c rfl ?_
     refine gh ?_
     refine R1_eql_u8_c rfl ?_
     refine gh ?_
     refine R1_eql_u8_c rfl ?_
     refine gh ?_
     refine R1_eql_u8_c rfl ?_
     refine gh ?_
     refine R1_sliceH sl_si64 rfl rfl (by omega) ?_
     refine gh ?_
     exact ⟨_,_,_,i,n,M,H,_,rfl,rfl,rfl,hX3,hAr.mono (by omega),hHr.take (by omega),hTr.mono (by omega)⟩
   · refine R1_eql_u8_c rfl ?_
     refine gh ?_
     refine R1_eql_u8_c rfl ?_
     refine gh ?_
     refine R1_eql_u8_c rfl ?_
     refine gh ?_
     refine R1_eql_u8_c rfl ?_
     refine gh ?_
     refine R1_eql_u8_c rfl ?_
     refine gh ?_
     refine R1_sliceH sl_sInt rfl rfl (by omega) ?_
     refine gh ?_
     exact ⟨_,_,_,n,i,M,H,_,rfl,rfl,rfl,hX3,hAr.mono (by omega),hHr,(hTr.mono (by omega)).take (by omega)⟩
   · refine R1_eql_u8_c rfl ?_
     refine gh ?_
     refine R1_eql_u8_c rfl ?_
     refine gh ?_
     refine R1_eql_u8_c rfl ?_
     refine gh ?_
     refine R1_eql_u8_c rfl ?_
     refine gh ?_
     refine R1_eql_u8_c rfl ?_
     refine gh ?_
     exact ⟨_,_,_,n,n,M,H,_,rfl,rfl,rfl,hX3,hAr.mono (by omega),hHr,hTr.mono (by omega)⟩
 clear hX3 hZ hWT hWA hE24 hHr hTr hAr
 rintro f w5 ⟨va,vh,vt,r2,r3,G2,H2,T2,hf9,hf10,hf11,hX,hA,hH,hT⟩
 rw [ui hf9,ui hf10,ui hf11]
 clear hf9 hf10 hf11
 refine gh ?_
 refine R1_call2 (verify_ok _ _ _ n r2 r3 (K + 1) (fun _=>n) (fun _=>n) (fun _=>n) G2 H2 T2 w5 hA hH hT (by omega) (by omega)) ?_
 rintro _ w6 ⟨hE6,rfl⟩
 refine gh ?_
 refine R1_call2 (rverify_ok _ _ _ n r2 r3 (K + 1) (fun _=>n) (fun _=>n) (fun _=>n) G2 H2 T2 w6 (hA.ext hE6) (hH.ext hE6) (hT.ext hE6) (by omega) (by omega)) ?_
 rintro _ w7 ⟨hE7,rfl⟩
 refine gh ?_
 refine R1_call2 (awake8_ok w7) ?_
 rintro _ w8 ⟨hE8,rfl⟩
 refine gh ?_
 exact ret1 (v:=.bool _) rfl rfl ⟨hX.trans (hE6.trans (hE7.trans hE8)),rfl⟩
end Go.Proofs.YtmkbpjoihdfpkaaGreat
