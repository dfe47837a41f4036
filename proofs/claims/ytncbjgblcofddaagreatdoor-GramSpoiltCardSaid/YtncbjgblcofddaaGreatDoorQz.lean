/- Joined: Rfa, Rfb. -/
import Derived.Test.YtncbjgblcofddaaGreatDoorQw
import Derived.Test.YtncbjgblcofddaaGreatDoorQn
import Derived.Test.YtncbjgblcofddaaGreatDoorQk
import Derived.Test.YtncbjgblcofddaaGreatDoorQh
/- quadformref04: first,Leading,Symmetric. -/
namespace Go.Proofs.YtncbjgblcofddaaGreatDoor
open Go Go.Eng Go.Num Go.Proofs
def firstF (k m:Nat):Nat→Nat:=fun j=>if j < k then j else m
set_option maxHeartbeats 8000000 in
theorem first_ok (k m:Nat) (w:World) (hk:k≤1000) (_hm:m≤1000) :
 Meets Tryz.prog 170 #[.int .i64 ((k:Nat):Int),.int .i64 ((m:Nat):Int)] w fun v w'=>Ext w w'∧IntsN w' v (k + 1) (firstF k m):=by
 refine fn_W (n:=20) Tryz.func170 rfl rfl (by kernel_rfl) (by simp) ?_
 refine gg ?_
 refine W_seqM (fun f w'=>∃ v,f 1 = .int .i64 ((m:Nat):Int)∧f 5 = v∧Ext w w'∧Gr1 3 (.int .i64 0) w' v k (fun j=>.int .i64 ((j:Nat):Int))∧∀ b,some b = v.ownBlock→w.heap.size≤b) ?_ ?_
 · refine gg ?_
   refine W_loop (fun q f w'=>∃ i v,q = k - i∧i≤k∧f 0 = .int .i64 ((k:Nat):Int)∧f 1 = .int .i64 ((m:Nat):Int)∧f 5 = v∧f 6 = .int .i64 ((i:Nat):Int)∧Ext w w'∧Gr1 3 (.int .i64 0) w' v i (fun j=>.int .i64 ((j:Nat):Int))∧∀ b,some b = v.ownBlock→w.heap.size≤b)
    k ⟨0,.slice none 0 0,rfl,Nat.zero_le _,rfl,rfl,rfl,rfl,Ext.refl _,Gr1.nil,fun b hb=>by cases hb⟩ ?_
   rintro q f w1 ⟨i,v,rfl,hi,hf0,hf1,hf5,hf6,hE,hG,hown⟩
   rw [ui hf0,ui hf1,ui hf5,ui hf6]
   clear hf0 hf1 hf5 hf6
   refine W_seq ?_
   by_cases hlt:i < k
   · refine gg ?_
     refine R1_build1 (v0:=.int .i64 ((i:Nat):Int)) sl_int rfl (.inl rfl) rfl rfl ?_
     intro w2 hB2 hE2 hs2
     have hc2:=blkS hB2
     refine gg ?_
     refine R1_app1 sl_int rfl (.inl rfl) rfl rfl (hG.ext hE2) hc2 rfl (by omega) (by decide) (fun _ _ _=>by simp) (fun _=>by simp) ?_
     intro v' w3 hG3 hk3 hC3 hv3
     have hs:=(hE.trans hE2).size
     refine gg ?_
     refine ⟨_,?_,i + 1,v',rfl,by omega,rfl,rfl,rfl,rfl,hC3.ext_of (hE.trans hE2) hown,hG3.congr fun j _=>?_,fun b hb=>?_⟩
     · omega
     · by_cases e:j = i
       · rw [if_pos e,e]
       · rw [if_neg e]
     · rcases hv3 with e | e
       · rw [e] at hb; exact hown b hb
       · rw [e] at hb; injection hb with hb; omega
   · refine gg ?_
     obtain rfl:i = k:=by omega
     exact ⟨v,rfl,rfl,hE,hG,hown⟩
 rintro f w1 ⟨v,hf1,hf5,hE,hG,hown⟩
 rw [ui hf1,ui hf5]
 refine gg ?_
 refine R1_build1 (v0:=.int .i64 ((m:Nat):Int)) sl_int rfl (.inl rfl) rfl rfl ?_
 intro w2 hB2 hE2 hs2
 have hc2:=blkS hB2
 refine gg ?_
 refine R1_app1 sl_int rfl (.inl rfl) rfl rfl (hG.ext hE2) hc2 rfl (by omega) (by decide) (fun _ _ _=>by simp) (fun _=>by simp) ?_
 intro v' w3 hG3 hk3 hC3 hv3
 obtain ⟨A,c,rfl,h1,h2⟩:=hG3.slice
 refine gg ?_
 refine ret1 (v:=.slice _ _ _) rfl rfl ⟨hC3.ext_of (hE.trans hE2) hown,A,c,rfl,h1,h2,fun j hj=>?_⟩
 obtain ⟨g,cap,e,hc⟩:=hG3.at hj
 injection e with e _ _
 refine ⟨_,e,?_⟩
 rw [add_lit,hc]
 unfold firstF
 dsimp only
 by_cases e:j = k
 · rw [if_pos e,if_neg (by omega)]
 · rw [if_neg e,if_pos (by omega)]
set_option maxHeartbeats 16000000 in
theorem rsymm_ok (va:Value) (n N:Nat) (M:Nat→Nat→Int) (w:World) (hM:MatE (EI N) w va n (fun _=>n) M) (hn:1≤n) (hN:N < 137438953472) :
 Meets Tryz.prog 66 #[va] w (REq w (∀ i j,i < n→j < i→M i j = M j i)):=by
 obtain ⟨Aa,capa,rfl,hcp,hcp2,hrow⟩:=id hM
 obtain ⟨ad,_,rfl,_⟩:=hrow 0 (by omega)
 refine fn_W (n:=32) Tryz.func66 rfl rfl (by kernel_rfl) (by simp) ?_
 refine gg ?_
 refine W_seqM (fun f w'=>Ext w w'∧∀ a b,a < n→b < a→M a b = M b a) ?_ ?_
 · refine gg ?_
   refine W_loop (fun m f w'=>∃ i,m = n - i∧i≤n∧f 0 = .slice (some ad) n capa∧f 5 = .slice (some ad) n capa∧f 6 = .int .i64 ((n:Nat):Int)∧f 7 = .int .i64 ((i:Nat):Int)∧Ext w w'∧∀ a b,a < i→b < a→M a b = M b a)
    n ⟨0,rfl,Nat.zero_le _,rfl,rfl,rfl,rfl,Ext.refl _,fun a b h=>absurd h (by omega)⟩ ?_
   rintro m f w1 ⟨i,rfl,hi,hf0,hf5,hf6,hf7,hE,hall⟩
   rw [ui hf0,ui hf5,ui hf6,ui hf7]
   clear hf0 hf5 hf6 hf7
   by_cases hlt:i < n
   · refine gg ?_
     refine W_loop (fun m f w'=>∃ j,m = i - j∧j≤i∧f 0 = .slice (some ad) n capa∧f 5 = .slice (some ad) n capa∧f 6 = .int .i64 ((n:Nat):Int)∧f 7 = .int .i64 ((i:Nat):Int)∧f 3 = .int .i64 ((i:Nat):Int)∧f 4 = .int .i64 ((j:Nat):Int)∧Ext w w'∧∀ b,b < j→M i b = M b i)
      i ⟨0,rfl,Nat.zero_le _,rfl,rfl,rfl,rfl,rfl,rfl,hE,fun b h=>absurd h (by omega)⟩ ?_
     clear hE
     rintro m f w2 ⟨j,rfl,hj,hf0,hf5,hf6,hf7,hf3,hf4,hE,hall2⟩
     rw [ui hf0,ui hf5,ui hf6,ui hf7,ui hf3,ui hf4]
     clear hf0 hf5 hf6 hf7 hf3 hf4
     refine W_seq ?_
     by_cases hjl:j < i
     · refine gg ?_
       refine W_seqD [(0,3),(1,3),(2,3),(3,0),(4,3),(5,3),(6,0),(7,3),(8,3),(9,3),(10,0),(11,3),(12,3),(13,0),(14,1),(15,3)] mixed (by kernel_rfl) (fun w3 hE3 _=>?_)
       obtain ⟨ad1,u1,e1,hu1,hr1'⟩:=hrow i hlt
       obtain rfl:=Option.some.inj e1
       have hr1':RowE (EI N) w u1 n (M i):=hr1'
       obtain ⟨A1,c1,rfl,_,_,he1⟩:=hr1'
       obtain ⟨ae1,x1,y1,rfl,hx1,hy1,hv1⟩:=he1 j (by omega)
       obtain ⟨ad2,u2,e2,hu2,hr2'⟩:=hrow j (by omega)
       obtain rfl:=Option.some.inj e2
       have hr2':RowE (EI N) w u2 n (M j):=hr2'
       obtain ⟨A2,c2,rfl,_,_,he2⟩:=hr2'
       obtain ⟨ae2,x2,y2,rfl,hx2,hy2,hv2⟩:=he2 i hlt
       have hE03:=hE.trans hE3
       have k1:=cell_ext hE03 hu1
       have k2:=cell_ext hE03 hu2
       have k3:=cell_ext hE03 hx1
       have k4:=cell_ext hE03 hy1
       have k5:=cell_ext hE03 hx2
       have k6:=cell_ext hE03 hy2
       refine gg ?_
       refine R1_call1 (rcmpI_ok _ _ _ _ _ _ N w3 (IV.ext hv1 hE03) (IV.ext hv2 hE03) hN) ?_
       rintro _ w4 ⟨hE4,rfl⟩
       refine ⟨hE4,?_⟩
       by_cases hz:M i j = M j i
       · have hs:cmpI (M i j) (M j i) = 0:=(cmpI_zero _ _).2 hz
         refine gg ?_
         refine ⟨_,?_,j + 1,rfl,by omega,rfl,rfl,rfl,rfl,rfl,rfl,hE03.trans hE4,fun b hb=>?_⟩
         · omega
         · by_cases e:b = j
           · subst e; exact hz
           · exact hall2 b (by omega)
       · have hs:¬ cmpI (M i j) (M j i) = 0:=fun e=>hz ((cmpI_zero _ _).1 e)
         refine gg ?_
         exact ret1 (v:=.bool _) rfl rfl ⟨hE03.trans hE4,false,rfl,⟨fun h=>(by cases h),fun h=>absurd (h i j hlt hjl) hz⟩⟩
     · refine gg ?_
       refine ⟨_,?_,i + 1,rfl,by omega,rfl,rfl,rfl,rfl,hE,fun a b ha' hb=>?_⟩
       · omega
       · by_cases e:a = i
         · subst e; exact hall2 b (by omega)
         · exact hall a b (by omega) hb
   · refine gg ?_
     exact ⟨hE,fun a b ha' hb=>hall a b (by omega) hb⟩
 rintro f w1 ⟨hE1,hsym⟩
 refine gg ?_
 exact ret1 (v:=.bool _) rfl rfl ⟨hE1,true,rfl,⟨fun _=>hsym,fun _=>rfl⟩⟩
end Go.Proofs.YtncbjgblcofddaaGreatDoor
namespace Go.Proofs.YtncbjgblcofddaaGreatDoor
open Go Go.Eng Go.Num Go.Proofs
def ldM (M:Nat→Nat→Int):Nat→Int:=fun k=>Go.Det.det (k + 1) M
theorem first_det (k:Nat) (M:Nat→Nat→Int):detB (k + 1) (fun i j=>M (firstF k k i) (firstF k k j)) = ldM M k:=by
 rw [detB_det]
 refine Go.Det.det_congr fun i j hi hj=>?_
 have e:∀ i,i < k + 1→firstF k k i = i:=fun i hi=>by unfold firstF; split <;> omega
 rw [e i hi,e j hj]
def RLd (w:World) (ok:Bool) (n N:Nat) (M:Nat→Nat→Int) (v:Value) (w':World):Prop :=
 Ext w w'∧((ok = false∧v = .tuple #[.slice none 0 0,.bool false]) ∨ (ok = true∧∃ u,v = .tuple #[u,.bool true]∧GrowB w' u n true (Nb N 16) (ldM M)))
theorem ldM_bd {n N k:Nat} {M:Nat→Nat→Int} (hN:1≤N) (hk:k < n) (hn:n≤16) (h:∀ i j,i < n→j < n→Bd N (M i j)):Bd (Nb N 16) (ldM M k):=by
 unfold ldM
 rw [← detB_det]
 exact (detB_bd hN fun i j hi hj=>h i j (by omega) (by omega)).mono (Nb_le16 N _ (by omega))
set_option maxHeartbeats 16000000 in
theorem rleading_ok (va:Value) (r N:Nat) (len:Nat→Nat) (M:Nat→Nat→Int) (w:World) (ha:MatE (EI N) w va r len M) (hN1:1≤N) (hN:N < 1048576) :
 Meets Tryz.prog 124 #[va] w (RLd w (okS r len) r N M):=by
 refine fn_W (n:=33) Tryz.func124 rfl rfl (by kernel_rfl) (by simp) ?_
 refine gg ?_
 refine R1_call2 (rsquare_ok _ va r len M w ha) ?_
 rintro _ w1 ⟨hE1,rfl⟩
 obtain ⟨n,en,hn⟩:=sqV_cases r len
 rw [en]
 by_cases hok:okS r len = true
 rotate_left
 · have hok':okS r len = false:=by simpa using hok
   rw [hok']
   refine gg ?_
   refine W_seq ?_
   refine gg ?_
   exact ret2 (v:=.slice _ _ _) (v':=.bool _) rfl rfl rfl ⟨hE1,.inl ⟨rfl,rfl⟩⟩
 rw [hok,if_pos rfl] at hn
 obtain rfl:r = n:=hn.symm
 obtain ⟨hr1,hr2,hlen⟩:=okS_iff.1 hok
 rw [hok]
 have hM:=(ha.sq hlen).ext hE1
 have hbM:∀ i j,i < r→j < r→Bd N (M i j):=fun i j hi hj=>hM.bd hi hj
 obtain ⟨Aa,capa,hva,_⟩:=id hM
 subst hva
 clear en hn
 refine gg ?_
 refine W_seq ?_
 refine gg ?_
 refine W_seqM (fun f w'=>∃ v,f 6 = v∧Ext w w'∧GrowB w' v r true (Nb N 16) (ldM M)) ?_ ?_
 · refine gg ?_
   refine W_loop (fun m f w'=>∃ k v,m = r - k∧k≤r∧f 0 = .slice Aa r capa∧f 4 = .int .i64 ((r:Nat):Int)∧f 6 = v∧f 7 = .int .i64 ((k:Nat):Int)∧Ext w1 w'∧GrowB w' v k true (Nb N 16) (ldM M)∧∀ b,some b = v.ownBlock→w1.heap.size≤b)
    r ⟨0,.slice none 0 0,rfl,Nat.zero_le _,rfl,rfl,rfl,rfl,Ext.refl _,GrowB.nil,fun b hb=>by cases hb⟩ ?_
   rintro m f w2 ⟨k,v,rfl,hk,hf0,hf4,hf6,hf7,hE,hG,hown⟩
   rw [ui hf0,ui hf4,ui hf6,ui hf7]
   clear hf0 hf4 hf6 hf7
   refine W_seq ?_
   by_cases hlt:k < r
   · refine gg ?_
     refine R1_call2 (first_ok k k w2 (by omega) (by omega)) ?_
     rintro v1 w3 ⟨hE3,hv1⟩
     refine gg ?_
     refine R1_call2 (first_ok k k w3 (by omega) (by omega)) ?_
     rintro v2 w4 ⟨hE4,hv2⟩
     have hf:∀ j,j < k + 1→firstF k k j < r:=fun j hj=>by unfold firstF; split <;> omega
     have hE14:=hE.trans (hE3.trans hE4)
     refine gg ?_
     refine R1_call2 (rselect_ok _ v1 v2 r r (k + 1) (k + 1) N _ _ M w4 (hM.ext hE14) (hv1.ext hE4) hv2 hf hf (by omega) (by omega)) ?_
     rintro v3 w5 ⟨hE5,hS⟩
     refine gg ?_
     refine R1_call2 (rdet_ok v3 (k + 1) N _ w5 hS (by omega) hN1 hN) ?_
     rintro _ w6 ⟨hE6,x,y,rfl,hcv⟩
     rw [first_det] at hcv
     have hbd:=ldM_bd hN1 hlt hr2 hbM
     refine gg ?_
     refine R1_sliceE1 (.inl rfl) rfl ?_
     intro w7 hB7 hE7 hs7
     obtain ⟨p1,p2⟩:=blkP hB7
     have hE27:=hE3.trans (hE4.trans (hE5.trans (hE6.trans hE7)))
     refine gg ?_
     refine R1_appE (.inl rfl) rfl rfl (hG.ext hE27) p1 p2 ((hcv.ext hE7).ev true hbd) (by omega) ?_
     intro v' w8 hG8 hk8 hC8 hv8
     have hs:=(hE.trans hE27).size
     refine gg ?_
     refine ⟨_,?_,k + 1,v',rfl,by omega,rfl,rfl,rfl,rfl,hC8.ext_of (hE.trans hE27) hown,hG8.congr fun q _=>?_,fun b hb=>?_⟩
     · omega
     · split
       · rename_i e; rw [e]
       · rfl
     · rcases hv8 with e | e
       · rw [e] at hb; exact hown b hb
       · rw [e] at hb; injection hb with hb; omega
   · refine gg ?_
     obtain rfl:k = r:=by omega
     exact ⟨v,rfl,hE1.trans hE,hG⟩
 rintro f w2 ⟨v,hf6,hE,hG⟩
 rw [ui hf6]
 clear hf6
 refine gg ?_
 exact ret2 (v:=v) (v':=.bool _) rfl rfl rfl ⟨hE,.inr ⟨rfl,v,rfl,hG⟩⟩
def okDf (r:Nat) (len:Nat→Nat) (M:Nat→Nat→Int):Prop:=okS r len = true∧(∀ i j,i < r→j < i→M i j = M j i)∧∀ q,q < r→0 < ldM M q
set_option maxHeartbeats 16000000 in
theorem rdefinite_ok (va:Value) (r N:Nat) (len:Nat→Nat) (M:Nat→Nat→Int) (w:World) (ha:MatE (EI N) w va r len M) (hN1:1≤N) (hN:N < 1048576) :
 Meets Tryz.prog 67 #[va] w (REq w (okDf r len M)):=by
 refine fn_W (n:=29) Tryz.func67 rfl rfl (by kernel_rfl) (by simp) ?_
 refine gg ?_
 refine R1_call2 (rleading_ok va r N len M w ha hN1 hN) ?_
 rintro _ w1 ⟨hE1,⟨hok,rfl⟩ | ⟨hok,u,rfl,hG⟩⟩
 · refine gg ?_
   refine W_seq ?_
   refine gg ?_
   exact ret1 (v:=.bool _) rfl rfl ⟨hE1,false,rfl,⟨fun h=>(by cases h),fun h=>by have:=h.1; rw [hok] at this; cases this⟩⟩
 obtain ⟨hr1,hr2,hlen⟩:=okS_iff.1 hok
 have hM:=(ha.sq hlen).ext hE1
 obtain ⟨Au,cu,hu⟩:=hG.slice
 subst hu
 refine gg ?_
 refine W_seq ?_
 refine gg ?_
 refine R1_call2 (rsymm_ok va r N M w1 hM hr1 (by omega)) ?_
 rintro _ w2 ⟨hE2,b,rfl,hb⟩
 cases b with
 | false =>
  refine gg ?_
  exact ret1 (v:=.bool _) rfl rfl ⟨hE1.trans hE2,false,rfl,⟨fun h=>(by cases h),fun h=>by have:=hb.2 h.2.1; cases this⟩⟩
 | true =>
  have hsym:=hb.1 rfl
  have hRow:=(hG.ext hE2).rowC
  have hNb:=Nb_big hN (Nat.le_refl 16)
  refine gg ?_
  refine W_seqM (fun f w'=>Ext w w'∧∀ q,q < r→0 < ldM M q) ?_ ?_
  · refine gg ?_
    refine W_loop (fun m f w'=>∃ k,m = r - k∧k≤r∧f 19 = .slice Au r cu∧f 20 = .int .i64 ((r:Nat):Int)∧f 21 = .int .i64 ((k:Nat):Int)∧Ext w2 w'∧∀ q,q < k→0 < ldM M q)
     r ⟨0,rfl,Nat.zero_le _,rfl,rfl,rfl,Ext.refl _,fun q h=>absurd h (by omega)⟩ ?_
    rintro m f w3 ⟨k,rfl,hk,hf19,hf20,hf21,hE,hall⟩
    rw [ui hf19,ui hf20,ui hf21]
    clear hf19 hf20 hf21
    by_cases hlt:k < r
    · obtain ⟨Ax,cx,ex,_,_,hent⟩:=hRow
      injection ex with ex1 _ ex3
      subst ex1 ex3
      obtain ⟨ae,x,y,rfl,hx,hy,hcv,hbd⟩:=hent k hlt
      have k1:=cell_ext hE hx
      have k2:=cell_ext hE hy
      refine gg ?_
      have hcv3:=hcv.ext hE
      refine R1_alloc (.inl rfl) z_Int ?_
      intro w4a hBa_ hEa_ hsa_
      have hG0_:Bx w4a w3.heap.size 1 true 0:=Bx.zero true hBa_
      obtain ⟨g6,hg_⟩ : ∃ g,g = w3.heap.size:=⟨_,rfl⟩
      rw [← hg_] at hG0_ ⊢
      refine gg ?_
      refine R1_storeBx (.inl rfl) rfl rfl hG0_ ((hcv3.ext hEa_).ev true hbd) ?_
      intro w4 hb6 hCb_ hkb_ hsb_
      have hE4:Ext w3 w4:=hCb_.ext_of hEa_ (fun b hb=>by omega)
      have hfr_g6:w3.heap.size≤g6:=by omega
      clear hG0_ hBa_ hEa_ hsa_ hsb_ hCb_ hkb_ hg_
      obtain ⟨x',y',hB6,hv6⟩:=id hb6
      obtain ⟨p1,p2⟩:=blkP hB6
      refine gg ?_
      refine R1_call2 (rsign_ok _ _ _ _ w4 hv6.1 (by omega)) ?_
      rintro _ w5 ⟨hE5,rfl⟩
      have hE25:=hE.trans (hE4.trans hE5)
      by_cases hz:0 < ldM M k
      · have hs:¬ (ldM M k).sign≤0:=by rw [Int.sign_eq_one_of_pos hz]; decide
        refine gg ?_
        refine ⟨_,?_,k + 1,rfl,by omega,rfl,rfl,rfl,hE25,fun q hq=>?_⟩
        · omega
        · by_cases e:q = k
          · subst e; exact hz
          · exact hall q (by omega)
      · have hs:(ldM M k).sign≤0:=by
         rcases Int.lt_or_eq_of_le (show ldM M k≤0 by omega) with h | h
         · rw [Int.sign_eq_neg_one_of_neg h]; decide
         · rw [h]; decide
        refine gg ?_
        exact ret1 (v:=.bool _) rfl rfl ⟨hE1.trans (hE2.trans hE25),false,rfl,⟨fun h=>(by cases h),fun h=>absurd (h.2.2 k hlt) hz⟩⟩
    · refine gg ?_
      exact ⟨hE1.trans (hE2.trans hE),fun q hq=>hall q (by omega)⟩
  rintro f w3 ⟨hE3,hpos⟩
  refine gg ?_
  exact ret1 (v:=.bool _) rfl rfl ⟨hE3,true,rfl,⟨fun _=>⟨hok,hsym,hpos⟩,fun _=>rfl⟩⟩
end Go.Proofs.YtncbjgblcofddaaGreatDoor
