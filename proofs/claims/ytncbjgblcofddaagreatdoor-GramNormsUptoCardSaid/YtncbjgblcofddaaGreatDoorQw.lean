/- Joined: Sts, Def. -/
import Derived.Test.YtncbjgblcofddaaGreatDoorQu
import Derived.Test.YtncbjgblcofddaaGreatDoorQv
import Derived.Test.YtncbjgblcofddaaGreatDoorQn
/- bareiss.Stages. -/
namespace Go.Proofs.YtncbjgblcofddaaGreatDoor
open Go Go.Eng Go.Num Go.Proofs
open Go.Det (stg stL stg_succ)
theorem sl_ssInt:SliceTy Tryz.prog 139 22 1 24 (.slice none 0 0):=⟨Tryz.underlying139,by kernel_rfl⟩
theorem z_ssInt:ZeroTy Tryz.prog 22 (.slice none 0 0):=by unfold ZeroTy; kernel_rfl
set_option maxHeartbeats 8000000 in
theorem stages1_ok (i j gA r c N:Nat) (va:Value) (X:Nat→Nat→Int) (w:World) (hA:Blk w gA 22 #[va])
 (ha:MatE (EI N) w va r (fun _=>c) X) (hi:i < r) (hj:j < c) (hN:N < 1099511627776) :
 Meets Tryz.prog 168 #[.int .i64 ((i:Nat):Int),.int .i64 ((j:Nat):Int),.pointer (some ⟨gA,0,none⟩)] w (REV w N true (X i j)):=by
 refine fn_W (n:=14) Tryz.func168 rfl rfl (by kernel_rfl) (by simp) ?_
 refine gg ?_
 refine R1_alloc (.inl rfl) z_Int ?_
 intro w1 hB1 hE1 hs1
 have hR1:Bx w1 w.heap.size 1 true 0:=Bx.zero true hB1
 have f0:=blkS (hA.ext hE1)
 obtain ⟨ada,capa,ua,rfl,hua,hra⟩:=(ha.ext hE1).at hi
 obtain ⟨ada',capa',xa,ya,rfl,hxa,hya,hva⟩:=hra.at hj
 refine gg ?_
 refine R1_call2 (normalize_ok _ _ _ N w1 hva hN) ?_
 rintro _ w2 ⟨hE2,a1,b1,rfl,hc1⟩
 refine gg ?_
 refine R1_storeBx (.inl rfl) rfl rfl (hR1.ext hE2) (hc1.ev true (N:=N) (IV.bd hva)) ?_
 intro w6 hR6 hC6 hk6 hs6
 refine gg ?_
 obtain ⟨x,y,hB,hv⟩:=hR6
 exact retC rfl agg_Int rfl hB ⟨hC6.ext_of (hE1.trans hE2) (fun b hb=>by omega),x,y,rfl,hv⟩
set_option maxHeartbeats 16000000 in
theorem stages2_ok (i j gB gL n gS gE N:Nat) (X:Nat→Nat→Int) (z:Int) (w:World) (hB:Blk w gB 22 #[.slice (some ⟨gS,0,none⟩) n n])
 (hT:TMat w gS gE (fun i=>i) n n true N X) (hL:Bx w gL N true z) (hi:i + 1 < n) (hj:j + 1 < n) (hn:n≤16) (hN:N < 137438953472) (hz:z ≠ 0) :
 Meets Tryz.prog 169 #[.int .i64 ((i:Nat):Int),.int .i64 ((j:Nat):Int),.pointer (some ⟨gB,0,none⟩),.pointer (some ⟨gL,0,none⟩)] w (REV w (2 * N + 1) true ((X 0 0 * X (i + 1) (j + 1) - X (i + 1) 0 * X 0 (j + 1)) / z)):=by
 refine fn_W (n:=37) Tryz.func169 rfl rfl (by kernel_rfl) (by simp) ?_
 refine gg ?_
 refine R1_alloc (.inl rfl) z_Int ?_
 intro w1 hB1 hE1 hs1
 have hR1:Bx w1 w.heap.size 1 true 0:=Bx.zero true hB1
 obtain ⟨gR,hgR⟩ : ∃ g,g = w.heap.size:=⟨_,rfl⟩
 rw [← hgR] at hR1 ⊢
 clear hB1
 refine gg ?_
 refine W_seqD [(0,0),(1,3),(2,0),(3,3),(4,0),(5,0),(6,3),(7,3),(8,3),(9,0),(10,3),(11,0),(12,0),(13,3),(14,0),(15,3),(16,3),(17,3),(18,0),(19,0),(20,3),(21,3),(22,3),(23,0),(24,3),(25,3),(26,3),(27,0),(28,0),(29,1),(30,2)] mixed (by kernel_rfl) (fun w2 hE2 _=>?_)
 have hE02:=hE1.trans hE2
 have f0:=blkS (hB.ext hE02)
 have hT2:=hT.ext hE02
 have k0:=hT2.at (i:=0) (by omega)
 have k1:=hT2.at hi
 obtain ⟨x1,y1,p1,p1',hv1⟩:=hT2.entry (i:=0) (j:=0) (by omega) (by omega)
 obtain ⟨x2,y2,p2,p2',hv2⟩:=hT2.entry (i:=i + 1) (j:=0) hi (by omega)
 obtain ⟨x3,y3,p3,p3',hv3⟩:=hT2.entry (i:=0) (j:=j + 1) (by omega) hj
 obtain ⟨x4,y4,p4,p4',hv4⟩:=hT2.entry (i:=i + 1) (j:=j + 1) hi hj
 obtain ⟨x5,y5,hB5,hv5⟩:=hL.ext hE02
 obtain ⟨p5,p5'⟩:=blkP hB5
 refine gg ?_
 refine R1_index0B sl_Int rfl (by omega) ?_
 refine gg ?_
 refine R1_index0B sl_Int rfl (by omega) ?_
 refine gg ?_
 refine R1_call1 (cross_ok _ _ _ _ _ _ _ _ _ _ _ _ _ _ _ N w2 hv1.1 hv2.1 hv3.1 hv4.1 hv5.1 hN hz) ?_
 rintro _ w3 ⟨hE3,a,b,rfl,hc⟩
 refine ⟨hE3,?_⟩
 have hbd:Bd (2 * N + 1) ((X 0 0 * X (i + 1) (j + 1) - X (i + 1) 0 * X 0 (j + 1)) / z):=by
  rw [Nat.two_mul]
  exact ((hv1.bd.mul hv4.bd).sub (hv2.bd.mul hv3.bd)).ediv
 refine gg ?_
 refine R1_storeBx (.inl rfl) rfl rfl (hR1.ext (hE2.trans hE3)) (hc.ev true hbd) ?_
 intro w6 hR6 hC6 hk6 hs6
 refine gg ?_
 obtain ⟨x,y,hB,hv⟩:=hR6
 exact retC rfl agg_Int rfl hB ⟨hC6.ext_of (hE02.trans hE3) (fun b hb=>by omega),x,y,rfl,hv⟩
def StL (w:World) (v:Value) (m n N:Nat) (M:Nat→Nat→Int) (gos ges:Nat→Nat):Prop :=
 Gr1 22 (.slice none 0 0) w v m (fun q=>.slice (some ⟨gos q,0,none⟩) (n - q) (n - q))∧∀ q,q < m→TMat w (gos q) (ges q) (fun i=>i) (n - q) (n - q) true (Nb N q) (stg M q)
def okSt (n:Nat) (M:Nat→Nat→Int):Prop:=∀ q,q + 1 < n→stg M q 0 0 ≠ 0
def RSt (w:World) (p:Prop) (n N:Nat) (M:Nat→Nat→Int) (v:Value) (w':World):Prop :=
 Ext w w'∧((¬ p∧v = .tuple #[.slice none 0 0,.bool false]) ∨ (p∧∃ u gos ges,v = .tuple #[u,.bool true]∧StL w' u n n N M gos ges))
def RStF (w:World) (p:Prop) (n N:Nat) (M:Nat→Nat→Int) (v:Value) (w':World):Prop :=
 Ext w w'∧((¬ p∧v = .tuple #[.slice none 0 0,.bool false]) ∨ (p∧∃ u gos ges,v = .tuple #[u,.bool true]∧StL w' u n n N M gos ges∧∀ q,q < n→w.heap.size≤gos q∧w.heap.size≤ges q))
theorem stL_ne {M:Nat→Nat→Int} {k:Nat} (h:∀ q,q < k→stg M q 0 0 ≠ 0):stL M k ≠ 0:=by
 cases k with
 | zero=>exact Int.one_ne_zero
 | succ k=>exact h k (Nat.lt_succ_self k)
set_option maxHeartbeats 32000000 in
theorem stagesF_ok (va:Value) (r N:Nat) (len:Nat→Nat) (M:Nat→Nat→Int) (w:World) (ha:MatE (EI N) w va r len M) (hN1:1≤N) (hN:N < 1048576) :
 Meets Tryz.prog 123 #[va] w (RStF w (okS r len = true∧okSt r M) r N M):=by
 obtain ⟨Aa,capa,hva,_⟩:=id ha
 refine fn_W (n:=62) Tryz.func123 rfl rfl (by kernel_rfl) (by simp) ?_
 refine gg ?_
 refine R1_box (v:=va) (.inl rfl) rfl ?_
 intro w1 hB1 hE1 hs1
 have hA1:Blk w1 w.heap.size 22 #[va]:=by rw [hva] at hB1 ⊢; exact hB1
 have f1:=blkS hA1
 obtain ⟨gA,hgA⟩ : ∃ g,g = w.heap.size:=⟨_,rfl⟩
 rw [← hgA] at hA1 f1 ⊢
 refine gg ?_
 refine W_scope ?_
 refine gg ?_
 refine R1_call2 (square_ok _ va r len M w1 (ha.ext hE1)) ?_
 rintro _ _ ⟨rfl,n,rfl,hn⟩
 by_cases hok:okS r len = true
 rotate_left
 · have hok:okS r len = false:=by simpa using hok
   rw [hok]
   refine gg ?_
   refine W_seq ?_
   refine gg ?_
   exact ret2 (v:=.slice _ _ _) (v':=.bool _) rfl rfl rfl ⟨hE1,.inl ⟨fun h=>(by cases h.1),rfl⟩⟩
 obtain rfl:=hn hok
 obtain ⟨hr1,hr2,hlen⟩:=okS_iff.1 hok
 rw [hok]
 clear hn
 have hM:=(ha.sq hlen).ext hE1
 refine gg ?_
 refine W_seq ?_
 refine gg ?_
 refine R1_func0 ?_
 refine gg ?_
 refine R1_call2 (table_ok n n _ N true _ M w1 (by omega) (by omega) hr1 (fun i j hi hj w' hE'=>stages1_ok i j gA n n N va M w' (hA1.ext hE') (hM.ext hE') hi hj (by omega))) ?_
 rintro _ w2 ⟨hE2,gO,gE,rfl,hgO,hgE,hT⟩
 refine gg ?_
 refine R1_call2 (small_ok 1 w2 (by decide) (by decide)) ?_
 rintro _ w3 ⟨hE3,a1,b1,rfl,hc1⟩
 have hb1:Bd N 1:=Bd.mono (N:=1) (by unfold Bd; decide) hN1
 refine gg ?_
 have hO3:=(hT.ext hE3).outer.lt
 have hF3:gE < w3.heap.size:=by obtain ⟨_,h4,_⟩:=(hT.ext hE3).flat; exact h4.lt
 refine R1_alloc (.inl rfl) z_Int ?_
 intro w4a hBa_ hEa_ hsa_
 have hG0_:Bx w4a w3.heap.size 1 true 0:=Bx.zero true hBa_
 obtain ⟨gL,hg_⟩ : ∃ g,g = w3.heap.size:=⟨_,rfl⟩
 rw [← hg_] at hG0_ ⊢
 refine gg ?_
 refine R1_storeBx (.inl rfl) rfl rfl hG0_ ((hc1.ext hEa_).ev true hb1) ?_
 intro w4 hL hCb_ hkb_ hsb_
 have hE4:Ext w3 w4:=hCb_.ext_of hEa_ (fun b hb=>by omega)
 have hfr_gL:w3.heap.size≤gL:=by omega
 clear hG0_ hBa_ hEa_ hsa_ hsb_ hCb_ hkb_ hg_
 replace hT:=hT.ext (hE3.trans hE4)
 have hE04:=hE1.trans (hE2.trans (hE3.trans hE4))
 have hs01:=(hE1.trans (hE2.trans hE3)).size
 refine gg ?_
 refine W_seq (W_label ?_)
 refine gg ?_
 refine W_seqM (fun f w'=>∃ v gos ges,f 8 = v∧Ext w w'∧okSt n M∧StL w' v n n N M gos ges∧∀ q,q < n→w.heap.size≤gos q∧w.heap.size≤ges q) ?_ ?_
 · refine gg ?_
   refine W_loop (fun m f w'=>∃ k v gos ges,m = n - k∧k < n∧f 1 = .pointer (some ⟨gA,0,none⟩)∧f 4 = .int .i64 ((n:Nat):Int)∧f 8 = v∧f 7 = .pointer (some ⟨gL,0,none⟩)∧f 6 = .slice (some ⟨gos k,0,none⟩) (n - k) (n - k)∧f 23 = .int .i64 ((n:Nat):Int)∧f 24 = .int .i64 ((k:Nat):Int)∧Ext w w'∧StL w' v k n N M gos ges∧TMat w' (gos k) (ges k) (fun i=>i) (n - k) (n - k) true (Nb N k) (stg M k)∧Bx w' gL (Nb N k) true (stL M k)∧(∀ q,q < k→stg M q 0 0 ≠ 0)∧(∀ q,q < k + 1→gos q ≠ gL∧ges q ≠ gL∧w.heap.size≤gos q∧w.heap.size≤ges q)∧(∀ b,some b = v.ownBlock→w.heap.size≤b∧b ≠ gL∧∀ q,q < k + 1→gos q ≠ b∧ges q ≠ b))
    n ⟨0,.slice none 0 0,fun _=>gO,fun _=>gE,rfl,hr1,rfl,rfl,rfl,rfl,rfl,rfl,rfl,hE04,⟨Gr1.nil,fun q hq=>absurd hq (by omega)⟩,hT,hL,fun q hq=>absurd hq (by omega),fun q _=>⟨(by omega:gO ≠ gL),(by omega:gE ≠ gL),(by omega:w.heap.size≤gO),(by omega:w.heap.size≤gE)⟩,fun b hb=>by cases hb⟩ ?_
   clear hE04 hT hL hO3 hF3 hgO hgE hc1 hE2 hE3 hE4 f1 hM
   rintro m f w5 ⟨k,v,gos,ges,rfl,hk,hf1,hf4,hf8,hf7,hf6,hf23,hf24,hE,⟨hG,hSt⟩,hT,hL,hnz,hsep,hown⟩
   rw [ui hf1,ui hf4,ui hf8,ui hf7,ui hf6,ui hf23,ui hf24]
   clear hf1 hf4 hf8 hf7 hf6 hf23 hf24
   refine gg ?_
   refine R1_build1 (v0:=.slice (some ⟨gos k,0,none⟩) (n - k) (n - k)) sl_ssInt rfl (.inl rfl) rfl rfl ?_
   intro w6 hB6 hE6 hs6
   have hc6:=blkS hB6
   refine gg ?_
   refine R1_app1 sl_ssInt rfl (.inl rfl) rfl rfl (hG.ext hE6) hc6 rfl (by omega) (by decide) (fun _ _ _=>by simp) (fun _=>by simp) ?_
   intro v' w7 hG7 hk7 hC7 hv7
   have hE7:Ext w w7:=hC7.ext_of (hE.trans hE6) (fun b hb=>(hown b hb).1)
   have hG7':Gr1 22 (.slice none 0 0) w7 v' (k + 1) (fun q=>.slice (some ⟨gos q,0,none⟩) (n - q) (n - q)):=hG7.congr fun q _=>by
    by_cases e:q = k
    · subst e; rw [if_pos rfl]
    · rw [if_neg e]
   have hSt7:∀ q,q < k + 1→TMat w7 (gos q) (ges q) (fun i=>i) (n - q) (n - q) true (Nb N q) (stg M q):=fun q hq=>by
    have h5:TMat w5 (gos q) (ges q) (fun i=>i) (n - q) (n - q) true (Nb N q) (stg M q):=by
     by_cases e:q = k
     · subst e; exact hT
     · exact hSt q (by omega)
    exact (h5.ext hE6).kp hk7 hC7 (fun hb=>((hown _ hb).2.2 q hq).1 rfl) (fun hb=>((hown _ hb).2.2 q hq).2 rfl)
   have hL7:=(hL.ext hE6).kp hk7 hC7 (fun hb=>(hown _ hb).2.1 rfl)
   have hlt5:∀ q,q < k + 1→gos q < w5.heap.size∧ges q < w5.heap.size:=fun q hq=>by
    have h5:TMat w5 (gos q) (ges q) (fun i=>i) (n - q) (n - q) true (Nb N q) (stg M q):=by
     by_cases e:q = k
     · subst e; exact hT
     · exact hSt q (by omega)
    obtain ⟨_,h4,_⟩:=id h5.flat
    exact ⟨h5.outer.lt,h4.lt⟩
   have hLlt:=hL.lt
   have hw5:=hE.size
   have hown7:∀ b,some b = v'.ownBlock→w.heap.size≤b∧b ≠ gL∧∀ q,q < k + 1→gos q ≠ b∧ges q ≠ b:=fun b hb=>by
    rcases hv7 with e | e
    · rw [e] at hb; exact hown b hb
    · rw [e] at hb
      injection hb with hb
      exact ⟨by omega,by omega,fun q hq=>by have:=hlt5 q hq; omega⟩
   have hT7:=hSt7 k (by omega)
   have hs57:w5.heap.size≤w7.heap.size:=Nat.le_trans hE6.size hC7.size
   clear hG hSt hT hL hB6 hc6 hG7 hk7 hC7 hv7 hE hE6 hown
   by_cases hlast:k = n - 1
   · refine gg ?_
     refine ⟨v',gos,ges,rfl,hE7,fun q hq=>hnz q (by omega),?_⟩
     rw [show k + 1 = n by omega] at hG7' hSt7
     exact ⟨⟨hG7',hSt7⟩,fun q hq=>(hsep q (by omega)).2.2⟩
   have hTk:=hT7.at (i:=0) (by omega)
   obtain ⟨x0,y0,p0,p0',hv0⟩:=hT7.entry (i:=0) (j:=0) (by omega) (by omega)
   have hNbk:=Nb_big hN (show k≤16 by omega)
   refine gg ?_
   refine R1_index0B sl_Int rfl (by omega) ?_
   refine gg ?_
   refine R1_call2 (sign_ok _ _ _ _ w7 hv0.1 (by omega)) ?_
   rintro _ w8 ⟨hE8,rfl⟩
   clear hTk p0 p0'
   by_cases hz:stg M k 0 0 = 0
   · have hs:(stg M k 0 0).sign = 0:=by rw [hz]; rfl
     refine gg ?_
     exact ret2 (v:=.slice _ _ _) (v':=.bool _) rfl rfl rfl ⟨hE7.trans hE8,.inl ⟨fun h=>h.2 k (by omega) hz,rfl⟩⟩
   have hs:¬ (stg M k 0 0).sign = 0:=fun e=>hz (Int.sign_eq_zero_iff_zero.1 e)
   refine gg ?_
   refine R1_alloc (.inl rfl) z_ssInt ?_
   intro w9 hB9 hE9 hs9
   refine gg ?_
   refine R1_storeS (one_of rfl) (.inl rfl) rfl rfl hB9 (by simp [Value.cells]) ?_
   intro w10 hB10 hC10 hs10
   have hB10:Blk w10 w8.heap.size 22 #[.slice (some ⟨gos k,0,none⟩) (n - k) (n - k)]:=hB10
   obtain ⟨gB,hgB⟩ : ∃ g,g = w8.heap.size:=⟨_,rfl⟩
   rw [← hgB] at hB10 ⊢
   have hE10:Ext w8 w10:=hC10.ext_of hE9 (fun b hb=>by omega)
   have hT10:=hT7.ext (hE8.trans hE10)
   have hL10:=hL7.ext (hE8.trans hE10)
   refine gg ?_
   refine R1_func0 ?_
   refine gg ?_
   refine R1_call2 (table_ok (n - k - 1) (n - k - 1) _ (Nb N (k + 1)) true _ (stg M (k + 1)) w10 (by omega) (by omega) (by omega) (fun i j hi hj w' hE'=>by
    rw [stg_succ]
    exact stages2_ok i j gB gL (n - k) (gos k) (ges k) (Nb N k) (stg M k) (stL M k) w' (hB10.ext hE') (hT10.ext hE') (hL10.ext hE') (by omega) (by omega) (by omega) (by omega) (stL_ne hnz))) ?_
   rintro _ w11 ⟨hE11,gO',gE',rfl,hgO',hgE',hT'⟩
   rw [show n - k - 1 = n - (k + 1) by omega] at hT' ⊢
   have hfb:=blkS (hB10.ext hE11)
   have hT11:=hT10.ext hE11
   have hTk:=hT11.at (i:=0) (by omega)
   obtain ⟨x1,y1,p1,p1',hv1⟩:=hT11.entry (i:=0) (j:=0) (by omega) (by omega)
   refine gg ?_
   refine R1_index0B sl_Int rfl (by omega) ?_
   refine gg ?_
   refine R1_storeBx (N':=Nb N (k + 1)) (.inl rfl) rfl rfl (hL10.ext hE11) (hv1.mono (Nb_mono N k)) ?_
   intro w12 hL12 hC12 hk12 hs12
   have hE711:=hE8.trans (hE10.trans hE11)
   have hs711:=(hE8.trans hE10).size
   have hs11:=hE11.size
   obtain ⟨gos',e1,e2⟩ : ∃ gos':Nat→Nat,gO' = gos' (k + 1)∧∀ q,q < k + 1→gos' q = gos q:=⟨fun q=>if q = k + 1 then gO' else gos q,by simp,fun q hq=>if_neg (by omega)⟩
   obtain ⟨ges',e3,e4⟩ : ∃ ges':Nat→Nat,gE' = ges' (k + 1)∧∀ q,q < k + 1→ges' q = ges q:=⟨fun q=>if q = k + 1 then gE' else ges q,by simp,fun q hq=>if_neg (by omega)⟩
   subst e1 e3
   have hw7:=hE7.size
   refine gg ?_
   refine ⟨_,?_,k + 1,v',gos',ges',rfl,by omega,rfl,rfl,rfl,rfl,rfl,rfl,rfl,hC12.ext_of (hE7.trans hE711) (fun b hb=>by omega),⟨?_,fun q hq=>?_⟩,hT'.kp hk12 hC12 (by omega) (by omega),hL12,fun q hq=>?_,fun q hq=>?_,fun b hb=>?_⟩
   · omega
   · exact ((hG7'.ext hE711).ch hC12 (fun b hb=>(hown7 b hb).2.1)).congr fun q hq=>by rw [e2 q hq]
   · rw [e2 q hq,e4 q hq]
     exact ((hSt7 q hq).ext hE711).kp hk12 hC12 (hsep q hq).1 (hsep q hq).2.1
   · by_cases e:q = k
     · subst e; exact hz
     · exact hnz q (by omega)
   · by_cases e:q = k + 1
     · subst e; exact ⟨by omega,by omega,by omega,by omega⟩
     · rw [e2 q (by omega),e4 q (by omega)]; exact hsep q (by omega)
   · obtain ⟨q1,q2,q3⟩:=hown7 b hb
     refine ⟨q1,q2,fun q hq=>?_⟩
     by_cases e:q = k + 1
     · have:=(hG7'.lt hb)
       subst e; exact ⟨by omega,by omega⟩
     · rw [e2 q (by omega),e4 q (by omega)]; exact q3 q (by omega)
 rintro f w5 ⟨v,gos,ges,hf8,hE,hokt,hSt,hfre⟩
 rw [ui hf8]
 obtain ⟨A5,c5,rfl,_⟩:=hSt.1.slice
 refine gg ?_
 exact ret2 (v:=.slice _ _ _) (v':=.bool _) rfl rfl rfl ⟨hE,.inr ⟨⟨rfl,hokt⟩,_,gos,ges,rfl,hSt,hfre⟩⟩
theorem stages_ok (va:Value) (r N:Nat) (len:Nat→Nat) (M:Nat→Nat→Int) (w:World) (ha:MatE (EI N) w va r len M) (hN1:1≤N) (hN:N < 1048576) :
 Meets Tryz.prog 123 #[va] w (RSt w (okS r len = true∧okSt r M) r N M) :=
 (stagesF_ok va r N len M w ha hN1 hN).mono fun _ _ ⟨hE,h⟩=>⟨hE,h.imp id fun ⟨hp,u,gos,ges,e,hS,_⟩=>⟨hp,u,gos,ges,e,hS⟩⟩
end Go.Proofs.YtncbjgblcofddaaGreatDoor
namespace Go.Proofs.YtncbjgblcofddaaGreatDoor
open Go Go.Eng Go.Num Go.Proofs
open Go.Det (stg stL stg_succ)
theorem StL.list {w:World} {v:Value} {m n N:Nat} {M:Nat→Nat→Int} {gos ges:Nat→Nat} (h:StL w v m n N M gos ges) (hm:0 < m) :
 ∃ g cap,v = .slice (some ⟨g,0,none⟩) m cap∧∀ q,q < m→w.cell? ⟨g,0 + q * 1,none⟩ = some (.slice (some ⟨gos q,0,none⟩) (n - q) (n - q)):=by
 obtain ⟨g,cap,e,_⟩:=h.1.at hm
 refine ⟨g,cap,e,fun q hq=>?_⟩
 obtain ⟨g',cap',e',hc⟩:=h.1.at hq
 rw [e] at e'
 injection e' with e1 _ _
 injection e1 with e1
 injection e1 with e1
 rw [e1]; exact hc
def okDef (r:Nat) (len:Nat→Nat) (M:Nat→Nat→Int):Prop:=okS r len = true∧(∀ i j,i < r→j < i→M i j = M j i)∧∀ q,q < r→0 < stg M q 0 0
set_option maxHeartbeats 16000000 in
theorem definite_ok (va:Value) (r N:Nat) (len:Nat→Nat) (M:Nat→Nat→Int) (w:World) (ha:MatE (EI N) w va r len M) (hN1:1≤N) (hN:N < 1048576) :
 Meets Tryz.prog 64 #[va] w (REq w (okDef r len M)):=by
 refine fn_W (n:=64) Tryz.func64 rfl rfl (by kernel_rfl) (by simp) ?_
 refine gg ?_
 refine R1_call2 (square_ok _ va r len M w ha) ?_
 rintro _ _ ⟨rfl,n,rfl,hn⟩
 by_cases hok:okS r len = true
 rotate_left
 · have hok':okS r len = false:=by simpa using hok
   rw [hok']
   refine gg ?_
   refine W_seq ?_
   refine gg ?_
   exact ret1 (v:=.bool _) rfl rfl ⟨Ext.refl _,false,rfl,⟨fun h=>(by cases h),fun h=>absurd h.1 hok⟩⟩
 obtain rfl:=hn hok
 obtain ⟨hr1,hr2,hlen⟩:=okS_iff.1 hok
 rw [hok]
 clear hn
 have hM:=ha.sq hlen
 obtain ⟨Aa,capa,rfl,_,_,hrow⟩:=id hM
 obtain ⟨ad,_,rfl,_⟩:=hrow 0 (by omega)
 refine gg ?_
 refine W_seq ?_
 refine gg ?_
 refine W_seqM (fun f w'=>f 0 = .slice (some ad) n capa∧f 3 = .int .i64 ((n:Nat):Int)∧Ext w w'∧∀ a b,a < n→b < a→M a b = M b a) ?_ ?_
 · refine gg ?_
   refine W_loop (fun m f w'=>∃ i,m = n - i∧i≤n∧f 0 = .slice (some ad) n capa∧f 3 = .int .i64 ((n:Nat):Int)∧f 17 = .int .i64 ((n:Nat):Int)∧f 18 = .int .i64 ((i:Nat):Int)∧Ext w w'∧∀ a b,a < i→b < a→M a b = M b a)
    n ⟨0,rfl,Nat.zero_le _,rfl,rfl,rfl,rfl,Ext.refl _,fun a b h=>absurd h (by omega)⟩ ?_
   rintro m f w1 ⟨i,rfl,hi,hf0,hf3,hf17,hf18,hE,hall⟩
   rw [ui hf0,ui hf3,ui hf17,ui hf18]
   clear hf0 hf3 hf17 hf18
   by_cases hlt:i < n
   · refine gg ?_
     refine W_loop (fun m f w'=>∃ j,m = i - j∧j≤i∧f 0 = .slice (some ad) n capa∧f 3 = .int .i64 ((n:Nat):Int)∧f 17 = .int .i64 ((n:Nat):Int)∧f 18 = .int .i64 ((i:Nat):Int)∧f 5 = .int .i64 ((i:Nat):Int)∧f 21 = .int .i64 ((i:Nat):Int)∧f 22 = .int .i64 ((j:Nat):Int)∧Ext w w'∧∀ b,b < j→M i b = M b i)
      i ⟨0,rfl,Nat.zero_le _,rfl,rfl,rfl,rfl,rfl,rfl,rfl,hE,fun b h=>absurd h (by omega)⟩ ?_
     clear hE
     rintro m f w2 ⟨j,rfl,hj,hf0,hf3,hf17,hf18,hf5,hf21,hf22,hE,hall2⟩
     rw [ui hf0,ui hf3,ui hf17,ui hf18,ui hf5,ui hf21,ui hf22]
     clear hf0 hf3 hf17 hf18 hf5 hf21 hf22
     by_cases hjl:j < i
     · refine gg ?_
       refine W_seqD [(0,3),(1,3),(2,3),(3,0),(4,3),(5,3),(6,0),(7,3),(8,3),(9,3),(10,0),(11,3),(12,3),(13,0),(14,1),(15,3)] mixed (by kernel_rfl) (fun w3 hE3 _=>?_)
       obtain ⟨ad1,u1,e1,hu1,hr1'⟩:=hrow i hlt
       obtain rfl:=Option.some.inj e1
       have hr1':RowE (EI N) w u1 n (M i):=hr1'
       obtain ⟨A1,c1,rfl,_,_,he1⟩:=hr1'
       obtain ⟨ae1,x1,y1,rfl,hx1,hy1,hv1⟩:=he1 j (by omega)
       obtain ⟨ad2,u2,e2,hu2,hr2'⟩:=hrow j (by omega)
       obtain rfl:=Option.some.inj e2
       have hr2':RowE (EI N) w u2 n (M j):=hr2'
       obtain ⟨A2,c2,rfl,_,_,he2⟩:=hr2'
       obtain ⟨ae2,x2,y2,rfl,hx2,hy2,hv2⟩:=he2 i hlt
       have hE03:=hE.trans hE3
       have k1:=cell_ext hE03 hu1
       have k2:=cell_ext hE03 hu2
       have k3:=cell_ext hE03 hx1
       have k4:=cell_ext hE03 hy1
       have k5:=cell_ext hE03 hx2
       have k6:=cell_ext hE03 hy2
       refine gg ?_
       refine R1_call1 (cmp_ok _ _ _ _ _ _ N w3 (IV.ext hv1 hE03) (IV.ext hv2 hE03) (by omega)) ?_
       rintro _ w4 ⟨hE4,rfl⟩
       refine ⟨hE4,?_⟩
       by_cases hz:M i j = M j i
       · have hs:cmpI (M i j) (M j i) = 0:=by rw [hz]; simp [cmpI]
         refine gg ?_
         refine ⟨_,?_,j + 1,rfl,by omega,rfl,rfl,rfl,rfl,rfl,rfl,rfl,hE03.trans hE4,fun b hb=>?_⟩
         · omega
         · by_cases e:b = j
           · subst e; exact hz
           · exact hall2 b (by omega)
       · have hs:¬ cmpI (M i j) (M j i) = 0:=by
          unfold cmpI
          split
          · decide
          · split <;> omega
         refine gg ?_
         exact ret1 (v:=.bool _) rfl rfl ⟨hE03.trans hE4,false,rfl,⟨fun h=>(by cases h),fun h=>absurd (h.2.1 i j hlt hjl) hz⟩⟩
     · refine gg ?_
       refine ⟨_,?_,i + 1,rfl,by omega,rfl,rfl,rfl,rfl,hE,fun a b ha' hb=>?_⟩
       · omega
       · by_cases e:a = i
         · subst e; exact hall2 b (by omega)
         · exact hall a b (by omega) hb
   · refine gg ?_
     exact ⟨rfl,rfl,hE,fun a b ha' hb=>hall a b (by omega) hb⟩
 rintro f w1 ⟨hf0,hf3,hE1,hsym⟩
 rw [ui hf0,ui hf3]
 clear hf0 hf3
 refine gg ?_
 refine R1_call2 (stages_ok _ n N len M w1 (ha.ext hE1) hN1 hN) ?_
 rintro _ w2 ⟨hE2,⟨hp,rfl⟩ | ⟨hp,u,gos,ges,rfl,hSt⟩⟩
 · refine gg ?_
   refine W_seq ?_
   refine gg ?_
   exact ret1 (v:=.bool _) rfl rfl ⟨hE1.trans hE2,false,rfl,⟨fun h=>(by cases h),fun h=>absurd ⟨h.1,fun q hq=>by have:=h.2.2 q (by omega); omega⟩ hp⟩⟩
 obtain ⟨g,cp,rfl,hcell⟩:=hSt.list (by omega)
 refine gg ?_
 refine W_seq ?_
 refine gg ?_
 refine W_seqM (fun f w'=>Ext w w'∧∀ q,q < n→0 < stg M q 0 0) ?_ ?_
 · refine gg ?_
   refine R1_len sl_ssInt rfl ?_
   refine gg ?_
   refine W_loop (fun m f w'=>∃ k,m = n - k∧k≤n∧f 50 = .slice (some ⟨g,0,none⟩) n cp∧f 51 = .int .i64 ((n:Nat):Int)∧f 52 = .int .i64 ((k:Nat):Int)∧Ext w2 w'∧∀ q,q < k→0 < stg M q 0 0)
    n ⟨0,rfl,Nat.zero_le _,rfl,rfl,rfl,Ext.refl _,fun q h=>absurd h (by omega)⟩ ?_
   rintro m f w3 ⟨k,rfl,hk,hf50,hf51,hf52,hE,hall⟩
   rw [ui hf50,ui hf51,ui hf52]
   clear hf50 hf51 hf52
   by_cases hlt:k < n
   · have k1:=cell_ext hE (hcell k hlt)
     have hT:=(hSt.2 k hlt).ext hE
     have k2:=hT.at (i:=0) (by omega)
     obtain ⟨x0,y0,p0,p0',hv0⟩:=hT.entry (i:=0) (j:=0) (by omega) (by omega)
     have hNbk:=Nb_big hN (show k≤16 by omega)
     refine gg ?_
     refine R1_indexB sl_ssInt rfl rfl (by omega) ?_
     refine gg ?_
     refine R1_index0B sl_Int rfl (by omega) ?_
     refine gg ?_
     refine R1_call2 (sign_ok _ _ _ _ w3 hv0.1 (by omega)) ?_
     rintro _ w4 ⟨hE4,rfl⟩
     by_cases hz:0 < stg M k 0 0
     · have hs:¬ (stg M k 0 0).sign≤0:=by rw [Int.sign_eq_one_of_pos hz]; decide
       refine gg ?_
       refine ⟨_,?_,k + 1,rfl,by omega,rfl,rfl,rfl,hE.trans hE4,fun q hq=>?_⟩
       · omega
       · by_cases e:q = k
         · subst e; exact hz
         · exact hall q (by omega)
     · have hs:(stg M k 0 0).sign≤0:=by
        rcases Int.lt_or_eq_of_le (show stg M k 0 0≤0 by omega) with h | h
        · rw [Int.sign_eq_neg_one_of_neg h]; decide
        · rw [h]; decide
       refine gg ?_
       exact ret1 (v:=.bool _) rfl rfl ⟨hE1.trans (hE2.trans (hE.trans hE4)),false,rfl,⟨fun h=>(by cases h),fun h=>absurd (h.2.2 k hlt) hz⟩⟩
   · refine gg ?_
     exact ⟨hE1.trans (hE2.trans hE),fun q hq=>hall q (by omega)⟩
 rintro f w3 ⟨hE3,hpos⟩
 refine gg ?_
 exact ret1 (v:=.bool _) rfl rfl ⟨hE3,true,rfl,⟨fun _=>⟨hok,hsym,hpos⟩,fun _=>rfl⟩⟩
end Go.Proofs.YtncbjgblcofddaaGreatDoor
