/- Joined: Matm, Matn, Opn, Lrg, Mak, Lwb, Opg. -/
import Derived.Test.YtncbjgblcofddaaGreatDoorQe
import Derived.Test.YtncbjgblcofddaaGreatDoorQd
import Derived.Test.YtncbjgblcofddaaGreatDoorQc
import Derived.ProofKit
import Derived.SizedLaws
import Derived.Deep.Slices
import Derived.Deep.Strs
import Derived.WideShapes
/- matrix.Transpose,Add,Shape. -/
namespace Go.Proofs.YtncbjgblcofddaaGreatDoor
open Go Go.Eng Go.Num Go.Proofs
theorem shapeV_cases (r:Nat) (len:Nat→Nat):∃ (s c:Nat) (ok:Bool),shapeV r len = .tuple #[.int .i64 ((s:Nat):Int),.int .i64 ((c:Nat):Int),.bool ok]∧((okM r len = true∧ok = true∧s = r∧c = len 0) ∨ (okM r len = false∧ok = false∧s = 0∧c = 0)):=by
 by_cases h:okM r len = true
 · exact ⟨_,_,_,shapeV_t h,.inl ⟨h,rfl,rfl,rfl⟩⟩
 · exact ⟨_,_,_,shapeV_f h,.inr ⟨by simpa using h,rfl,rfl,rfl⟩⟩
theorem rmb_bad {w w':World} {ok:Bool} {r c:Nat} {M:Nat→Nat→Int} (h:ok = false) (hE:Ext w w'):RMB w ok r c M (.tuple #[.slice none 0 0,.bool false]) w':=by
 unfold RMB; rw [if_neg (by rw [h]; decide)]; exact ⟨hE,rfl⟩
theorem rmb_ok {w w0 w':World} {ok:Bool} {r c:Nat} {M:Nat→Nat→Int} {v:Value} (h:ok = true) (hE:Ext w w0) (hr:RM w0 r c M v w'):RMB w ok r c M (.tuple #[v,.bool true]) w':=by
 unfold RMB; rw [if_pos h]
 obtain ⟨hE2,gO,gs,rfl,h1,h2,h3⟩:=hr
 have:=hE.size
 exact ⟨_,rfl,hE.trans hE2,gO,gs,rfl,by omega,fun i hi=>by have:=h2 i hi; omega,h3⟩
set_option maxHeartbeats 8000000 in
theorem transpose1_ok (i j gA r c N:Nat) (va:Value) (X:Nat→Nat→Int) (w:World) (hA:Blk w gA 22 #[va])
 (ha:MatE (EI N) w va r (fun _=>c) X) (hi:i < c) (hj:j < r) (hN:N < 1099511627776) :
 Meets Tryz.prog 163 #[.int .i64 ((i:Nat):Int),.int .i64 ((j:Nat):Int),.pointer (some ⟨gA,0,none⟩)] w (RI w (X j i)):=by
 refine fn_W (n:=14) Tryz.func163 rfl rfl (by kernel_rfl) (by simp) ?_
 refine gg ?_
 refine R1_alloc (.inl rfl) z_Int ?_
 intro w1 hB1 hE1 hs1
 have hR1:Bx w1 w.heap.size 1 true 0:=Bx.zero true hB1
 have f0:=blkS (hA.ext hE1)
 obtain ⟨ada,capa,ua,rfl,hua,hra⟩:=(ha.ext hE1).at hj
 obtain ⟨ada',capa',xa,ya,rfl,hxa,hya,hva⟩:=hra.at hi
 refine gg ?_
 refine R1_call2 (normalize_ok _ _ _ N w1 hva hN) ?_
 rintro _ w2 ⟨hE2,a1,b1,rfl,hc1⟩
 refine gg ?_
 refine R1_storeBx (.inl rfl) rfl rfl (hR1.ext hE2) (hc1.ev true (N:=N) (IV.bd hva)) ?_
 intro w6 hR6 hC6 hk6 hs6
 refine gg ?_
 obtain ⟨x,y,hB,hv⟩:=hR6
 exact retC rfl agg_Int rfl hB ⟨hC6.ext_of (hE1.trans hE2) (fun b hb=>by omega),x,y,rfl,hv.2 rfl⟩
set_option maxHeartbeats 8000000 in
theorem transpose_ok (va:Value) (r N:Nat) (len:Nat→Nat) (X:Nat→Nat→Int) (w:World) (ha:MatE (EI N) w va r len X) (hN:N < 1099511627776) :
 Meets Tryz.prog 109 #[va] w (RMB w (okM r len) (len 0) r (fun i j=>X j i)):=by
 obtain ⟨Aa,capa,hva,_⟩:=id ha
 refine fn_W (n:=19) Tryz.func109 rfl rfl (by kernel_rfl) (by simp) ?_
 refine gg ?_
 refine R1_box (v:=va) (.inl rfl) rfl ?_
 intro w1 hB1 hE1 hs1
 have hA1:Blk w1 w.heap.size 22 #[va]:=by rw [hva] at hB1 ⊢; exact hB1
 have f1:=blkS hA1
 refine gg ?_
 refine R1_call2 (shape_ok _ va r len X w1 (ha.ext hE1)) ?_
 rintro _ _ ⟨rfl,rfl⟩
 obtain ⟨s1,c1,ok1,e1,h1⟩:=shapeV_cases r len
 rw [e1]
 rcases h1 with ⟨hok,rfl,rfl,rfl⟩ | ⟨hok,rfl,rfl,rfl⟩
 · obtain ⟨⟨hr1,hr2,hl1,hl2⟩,hlen⟩:=okM_iff.1 hok
   refine gg ?_
   refine W_seq ?_
   refine gg ?_
   refine R1_func0 ?_
   refine gg ?_
   refine R1_call2 (mbuild_ok (len 0) s1 _ _ (fun i j=>X j i) w1 (by omega) (by omega) (fun i j hi hj w' hE'=>transpose1_ok i j w.heap.size s1 (len 0) N va X w' (hA1.ext hE') ((ha.ext (hE1.trans hE')).sq hlen) hi hj hN)) ?_
   rintro v w5 hv
   have hv':=hv
   obtain ⟨_,gO,gs,rfl,_⟩:=hv'
   refine gg ?_
   exact ret2 (v:=.slice _ _ _) (v':=.bool _) rfl rfl rfl (rmb_ok hok hE1 hv)
 · refine gg ?_
   refine W_seq ?_
   refine gg ?_
   exact ret2 (v:=.slice _ _ _) (v':=.bool _) rfl rfl rfl (rmb_bad hok hE1)
end Go.Proofs.YtncbjgblcofddaaGreatDoor
namespace Go.Proofs.YtncbjgblcofddaaGreatDoor
open Go Go.Eng Go.Num Go.Proofs
set_option maxHeartbeats 8000000 in
theorem rtranspose_ok (va:Value) (r N:Nat) (len:Nat→Nat) (X:Nat→Nat→Int) (w:World) (ha:MatE (EI N) w va r len X) (hN:N < 1099511627776) :
 Meets Tryz.prog 129 #[va] w (RMB w (okM r len) (len 0) r (fun i j=>X j i)):=by
 obtain ⟨Aa,capa,hva,_⟩:=id ha
 refine fn_W (n:=51) Tryz.func129 rfl rfl (by kernel_rfl) (by simp) ?_
 refine gg ?_
 refine R1_call2 (rshape_ok _ va r len X w ha) ?_
 rintro _ w1 ⟨hE1,rfl⟩
 obtain ⟨s1,c1,ok1,e1,h1⟩:=shapeV_cases r len
 rw [e1]
 rcases h1 with ⟨hok,rfl,rfl,rfl⟩ | ⟨hok,rfl,rfl,rfl⟩
 · obtain ⟨⟨hr1,hr2,hl1,hl2⟩,hlen⟩:=okM_iff.1 hok
   have hS:=ha.sq hlen
   refine gg ?_
   refine W_seq ?_
   refine gg ?_
   refine R1_call2 (zero_ok (len 0) s1 w1 (by omega) (by omega)) ?_
   rintro _ w2 ⟨hE2,gO,gs,rfl,hg,hgs,hO⟩
   have hw1:=hE1.size
   have hE02:=hE1.trans hE2
   subst hva
   refine gg ?_
   refine W_seq ?_
   refine gg ?_
   refine W_loop (fun m f w'=>∃ i,m = s1 - i∧i≤s1∧f 0 = .slice Aa s1 capa∧f 7 = .slice (some ⟨gO,0,none⟩) (len 0) (len 0)∧f 22 = .int .i64 ((s1:Nat):Int)∧f 23 = .int .i64 ((i:Nat):Int) ∧
    Ext w w'∧WMat w' gO gs (len 0) s1 true (fun _ _=>N) (fun a b=>if b < i then X b a else 0))
    s1 ⟨0,rfl,Nat.zero_le _,rfl,rfl,rfl,rfl,hE02,(hO.wm true (N:=N) (fun _ _ _ _=>Bd.zero N)).congr (fun i j _ _=>⟨Nat.le_refl _,by simp⟩)⟩ ?_
   clear hO hE02 hE2 w2
   rintro m f w2 ⟨i,rfl,hi,hf0,hf7,hf22,hf23,hE,hW⟩
   rw [ui hf0,ui hf7,ui hf22,ui hf23]
   clear hf0 hf7 hf22 hf23
   by_cases hlt:i < s1
   · obtain ⟨ad,cap,u,e,hu,hru⟩:=(hS.ext hE).at hlt
     obtain ⟨Ai,capi,rfl,_⟩:=id hru
     cases e
     refine gg ?_
     refine W_loop (fun m f w'=>∃ j,m = len 0 - j∧j≤len 0∧f 0 = .slice (some ad) s1 capa∧f 7 = .slice (some ⟨gO,0,none⟩) (len 0) (len 0)∧f 8 = .int .i64 ((i:Nat):Int)∧f 22 = .int .i64 ((s1:Nat):Int)∧f 23 = .int .i64 ((i:Nat):Int) ∧
      f 30 = .int .i64 ((len 0:Nat):Int)∧f 31 = .int .i64 ((j:Nat):Int)∧Ext w w'∧WMat w' gO gs (len 0) s1 true (fun _ _=>N) (fun a b=>if b < i ∨ b = i∧a < j then X b a else 0))
      (len 0) ⟨0,rfl,Nat.zero_le _,rfl,rfl,rfl,rfl,rfl,rfl,rfl,hE,hW.congr (fun a b _ _=>⟨Nat.le_refl _,by by_cases e:b < i <;> simp [e]⟩)⟩ ?_
     clear hW hE hu hru
     rintro m f w2 ⟨j,rfl,hj,hf0,hf7,hf8,hf22,hf23,hf30,hf31,hE,hW⟩
     rw [ui hf0,ui hf7,ui hf8,ui hf22,ui hf23,ui hf30,ui hf31]
     clear hf0 hf7 hf8 hf22 hf23 hf30 hf31
     by_cases hjc:j < len 0
     · refine gg ?_
       refine W_regD [(0,3),(1,3),(2,3),(3,0),(4,3),(5,3),(6,3),(7,3),(8,0),(9,3),(10,3),(11,0),(12,1),(13,3),(14,2)] mixed (by kernel_rfl) (fun w3 hE3 _=>?_)
       obtain ⟨ad',cap',u,e,hu,hru⟩:=(hS.ext (hE.trans hE3)).at hlt
       cases e
       obtain ⟨ad2,cap2,x1,y1,rfl,hx1,hy1,hv1⟩:=hru.at hjc
       have hW3:=hW.ext hE3
       have hx:=hW3.at hjc
       refine gg ?_
       refine R1_call1 (rnormalize_ok _ _ _ N w3 hv1 hN) ?_
       rintro _ w4 ⟨hE4,x,y,rfl,hcv⟩
       refine ⟨hE4,?_⟩
       refine gg ?_
       refine R1_storeE (.inl rfl) rfl rfl ((hW3.ext hE4).row j hjc) hlt (hcv.ev true (N:=N) (IV.bd hv1)) ?_
       intro w5 hR5 hC5 hk5 hs5
       have hW5:=(hW3.ext hE4).put hjc hR5 hC5 hk5
       refine gg ?_
       have hgi:=hgs j hjc
       refine ⟨_,?_,j + 1,rfl,by omega,rfl,rfl,rfl,rfl,rfl,rfl,rfl,hC5.ext_of (hE.trans (hE3.trans hE4)) (fun b hb=>by omega),hW5.congr (fun a b ha hb=>⟨?_,?_⟩)⟩
       · omega
       · unfold set2; split <;> exact Nat.le_refl _
       · simp only [set2]
         by_cases e:a = j∧b = i
         · obtain ⟨rfl,rfl⟩:=e
           rw [if_pos ⟨rfl,rfl⟩,if_pos (by omega)]
         · rw [if_neg e]
           by_cases e2:b < i ∨ b = i∧a < j
           · rw [if_pos e2,if_pos (by omega)]
           · rw [if_neg e2,if_neg (by omega)]
     · refine gg ?_
       refine ⟨_,?_,i + 1,rfl,by omega,rfl,rfl,rfl,rfl,hE,hW.congr (fun a b ha hb=>⟨Nat.le_refl _,?_⟩)⟩
       · omega
       · by_cases e2:b < i + 1
         · rw [if_pos e2,if_pos (by omega)]
         · rw [if_neg e2,if_neg (by omega)]
   · refine gg ?_
     have:i = s1:=by omega
     subst this
     refine ret2 (v:=.slice _ _ _) (v':=.bool _) rfl rfl rfl ?_
     unfold RMB
     rw [if_pos hok]
     exact ⟨_,rfl,hE,gO,gs,rfl,by omega,fun k hk=>by have:=hgs k hk; omega,(hW.congr (bn':=fun _ _=>N) (M':=fun i j=>X j i) (fun a b ha hb=>⟨Nat.le_refl _,by rw [if_pos hb]⟩)).o⟩
 · refine gg ?_
   refine W_seq ?_
   refine gg ?_
   exact ret2 (v:=.slice _ _ _) (v':=.bool _) rfl rfl rfl (rmb_bad hok hE1)
set_option maxHeartbeats 8000000 in
theorem dot_ok (va vb:Value) (c N:Nat) (X Y:Nat→Int) (w:World) (ha:RowE (EI N) w va c X) (hb:RowE (EI N) w vb c Y) (hc:c < 4294967295) (hN:N < 34359738368) :
 Meets Tryz.prog 96 #[va,vb] w (RI w (sumTo c fun t=>X t * Y t)):=by
 obtain ⟨Aa,capa,hva,_⟩:=id ha
 subst hva
 refine fn_W (n:=26) Tryz.func96 rfl rfl (by kernel_rfl) (by simp) ?_
 refine gg ?_
 refine R1_alloc (.inl rfl) z_Int ?_
 intro w1 hB1 hE1 hs1
 have hR1:Bx w1 w.heap.size 1 true 0:=Bx.zero true hB1
 refine gg ?_
 refine R1_bld0 b0_Int ?_
 refine gg ?_
 refine R1_alloc (.inl rfl) z_Int ?_
 intro w2 hB2 hE2 hs2
 have hS2:Bx w2 w1.heap.size 1 true 0:=Bx.zero true hB2
 refine gg ?_
 refine R1_storeBx (N':=N + N + 1) (.inl rfl) rfl rfl hS2 ((CV.zero w2).ev true (Bd.zero _)) ?_
 intro w3 hS3 hC3 hk3 hs3
 obtain ⟨gR,hgR⟩ : ∃ g,g = w.heap.size:=⟨_,rfl⟩
 obtain ⟨gS,hgS⟩ : ∃ g,g = w1.heap.size:=⟨_,rfl⟩
 rw [← hgS] at hS3 hC3 ⊢
 rw [← hgR] at hR1 ⊢
 have hR3:=(hR1.ext hE2).kp hk3 hC3 (by omega)
 have hE3:Ext w w3:=hC3.ext_of (hE1.trans hE2) (fun b hb=>by omega)
 refine gg ?_
 refine W_seq ?_
 refine gg ?_
 refine W_loop (fun m f w'=>∃ k,m = c - k∧k≤c∧f 0 = .slice Aa c capa∧f 1 = vb∧f 4 = .pointer (some ⟨gR,0,none⟩)∧f 5 = .pointer (some ⟨gS,0,none⟩)∧f 9 = .int .i64 ((c:Nat):Int)∧f 10 = .int .i64 ((k:Nat):Int) ∧
  Ext w w'∧Bx w' gR 1 true 0∧Bx w' gS (N + N + 1) true (sumTo k fun t=>X t * Y t)) c ⟨0,rfl,Nat.zero_le _,rfl,rfl,rfl,rfl,rfl,rfl,hE3,hR3,hS3⟩ ?_
 clear hE3 hR3 hk3 hC3 hS3 hs3 hS2 hB2 hE2 hs2 hR1 hB1 w2 w3
 rintro m f w2 ⟨k,rfl,hk,hf0,hf1,hf4,hf5,hf9,hf10,hE,hR,hS⟩
 rw [ui hf0,ui hf1,ui hf4,ui hf5,ui hf9,ui hf10]
 clear hf0 hf1 hf4 hf5 hf9 hf10
 by_cases hlt:k < c
 · refine gg ?_
   refine W_regD [(0,0),(1,3),(2,3),(3,3),(4,0),(5,3),(6,3),(7,3),(8,0),(9,1),(10,1),(11,2)] mixed (by kernel_rfl) (fun w3 hE3 _=>?_)
   have hE':=hE.trans hE3
   obtain ⟨sx,sy,hSB,hSv⟩:=hS.ext hE3
   obtain ⟨s1,s2⟩:=blkP hSB
   obtain ⟨ada',capa',xa,ya,e,hxa,hya,hva⟩:=(ha.ext hE').at hlt
   cases e
   obtain ⟨adb',capb',xb,yb,rfl,hxb,hyb,hvb⟩:=(hb.ext hE').at hlt
   refine gg ?_
   refine R1_call1 (rmul_ok _ _ _ _ _ _ N w3 hva hvb (by omega)) ?_
   rintro _ w4 ⟨hE4,a1,b1,rfl,hc1⟩
   refine ⟨hE4,?_⟩
   have hm:Bd (N + N) (X k * Y k):=(IV.bd hva).mul (IV.bd hvb)
   refine gg ?_
   refine R1_call1 (radd_ok _ _ _ _ _ _ (N + N + 1) w4 (hSv.ext hE4).1 (hc1.iv (hm.mono (by omega))) (by omega)) ?_
   rintro _ w5 ⟨hE5,a2,b2,rfl,hc2⟩
   refine ⟨hE5,?_⟩
   have hsum:Bd (N + N + 1) (sumTo (k + 1) fun t=>X t * Y t):=sumTo_bd (by omega) (fun t ht=>?_)
   · refine gg ?_
     refine R1_storeBx (.inl rfl) rfl rfl (hS.ext (hE3.trans (hE4.trans hE5))) (hc2.ev true hsum) ?_
     intro w6 hS6 hC6 hk6 hs6
     have hsz:=hE1.size
     refine gg ?_
     refine ⟨_,?_,k + 1,rfl,by omega,rfl,rfl,rfl,rfl,rfl,rfl,hC6.ext_of (hE'.trans (hE4.trans hE5)) (fun b hb=>by omega),(hR.ext (hE3.trans (hE4.trans hE5))).kp hk6 hC6 (by omega),hS6⟩
     omega
   · obtain ⟨_,_,_,_,_,_,_,h1⟩:=ha.at (show t < c by omega)
     obtain ⟨_,_,_,_,_,_,_,h2⟩:=hb.at (show t < c by omega)
     exact (IV.bd h1).mul (IV.bd h2)
 · have:k = c:=by omega
   subst this
   obtain ⟨sx,sy,hSB,hSv⟩:=hS
   obtain ⟨s1,s2⟩:=blkP hSB
   refine gg ?_
   refine R1_storeBx (.inl rfl) rfl rfl hR hSv ?_
   intro w6 hR6 hC6 hk6 hs6
   refine gg ?_
   obtain ⟨x,y,hB,hv⟩:=hR6
   exact retC rfl agg_Int rfl hB ⟨hC6.ext_of hE (fun b hb=>by omega),x,y,rfl,hv.2 rfl⟩
set_option maxHeartbeats 8000000 in
theorem rmulM_ok (va vb:Value) (r1 r2 N:Nat) (len1 len2:Nat→Nat) (X Y:Nat→Nat→Int) (w:World) (ha:MatE (EI N) w va r1 len1 X) (hb:MatE (EI N) w vb r2 len2 Y) (hN:N < 34359738368) :
 Meets Tryz.prog 116 #[va,vb] w (RMB w (okMul r1 r2 len1 len2) r1 (len2 0) (mulM (len1 0) X Y)):=by
 obtain ⟨Aa,capa,hva,_⟩:=id ha
 obtain ⟨Ab,capb,hvb,_⟩:=id hb
 refine fn_W (n:=70) Tryz.func116 rfl rfl (by kernel_rfl) (by simp) ?_
 refine gg ?_
 refine R1_call2 (rshape_ok _ va r1 len1 X w ha) ?_
 rintro _ w1 ⟨hE1,rfl⟩
 obtain ⟨s1,c1,ok1,e1,h1⟩:=shapeV_cases r1 len1
 rw [e1]
 refine gg ?_
 refine R1_call2 (rtranspose_ok vb r2 N len2 Y w1 (hb.ext hE1) (by omega)) ?_
 intro vt w2 hvt
 by_cases hok2:okM r2 len2 = true
 · obtain ⟨_,rfl,hE2,gT,gsT,rfl,hgT,hgsT,hOT⟩:=hvt.get hok2
   clear hvt
   have hE02:=hE1.trans hE2
   obtain ⟨⟨hr1',hr2',hl1',hl2'⟩,hlen'⟩:=okM_iff.1 hok2
   have hSb:=hb.sq hlen'
   rcases h1 with ⟨hok1,rfl,rfl,rfl⟩ | ⟨hok1,rfl,rfl,rfl⟩
   · obtain ⟨⟨hr1,hr2,hl1,hl2⟩,hlen⟩:=okM_iff.1 hok1
     have hSa:=ha.sq hlen
     subst hva
     subst hvb
     by_cases hq:r2 = len1 0
     · have hok:okMul s1 r2 len1 len2 = true:=by simp [okMul,hok1,hok2,hq.symm]
       refine gg ?_
       refine W_seq ?_
       refine gg ?_
       refine R1_call2 (zero_ok s1 (len2 0) w2 (by omega) (by omega)) ?_
       rintro _ w3 ⟨hE3,gO,gs,rfl,hg,hgs,hO⟩
       have hw2:=hE02.size
       have hE03:=hE02.trans hE3
       have hT3:=hOT.ext hE3
       have hsep:∀ i,i < s1→gT ≠ gs i∧∀ j,j < len2 0→gsT j ≠ gs i:=fun i hi=>by
        have a:=hgs i hi
        have b:=hOT.outer.lt
        refine ⟨by omega,fun j hj=>?_⟩
        have:=(hOT.row j hj).lt
        omega
       refine gg ?_
       refine W_seq ?_
       refine gg ?_
       refine W_loop (fun m f w'=>∃ i,m = s1 - i∧i≤s1∧f 0 = .slice Aa s1 capa∧f 9 = .slice (some ⟨gT,0,none⟩) (len2 0) (len2 0)∧f 11 = .slice (some ⟨gO,0,none⟩) s1 s1∧f 43 = .int .i64 ((s1:Nat):Int)∧f 44 = .int .i64 ((i:Nat):Int) ∧
        Ext w w'∧OMat w' gT gsT (len2 0) r2 (fun i j=>Y j i)∧WMat w' gO gs s1 (len2 0) true (fun _ _=>N + N + 1) (fun a b=>if a < i then mulM (len1 0) X Y a b else 0))
        s1 ⟨0,rfl,Nat.zero_le _,rfl,rfl,rfl,rfl,rfl,hE03,hT3,(hO.wm true (N:=N + N + 1) (fun _ _ _ _=>Bd.zero _)).congr (fun i j _ _=>⟨Nat.le_refl _,by simp⟩)⟩ ?_
       clear hO hE03 hE3 hT3 w3
       rintro m f w3 ⟨i,rfl,hi,hf0,hf9,hf11,hf43,hf44,hE,hT,hW⟩
       rw [ui hf0,ui hf9,ui hf11,ui hf43,ui hf44]
       clear hf0 hf9 hf11 hf43 hf44
       by_cases hlt:i < s1
       · refine gg ?_
         refine W_loop (fun m f w'=>∃ j,m = len2 0 - j∧j≤len2 0∧f 0 = .slice Aa s1 capa∧f 9 = .slice (some ⟨gT,0,none⟩) (len2 0) (len2 0)∧f 11 = .slice (some ⟨gO,0,none⟩) s1 s1∧f 12 = .int .i64 ((i:Nat):Int)∧f 43 = .int .i64 ((s1:Nat):Int)∧f 44 = .int .i64 ((i:Nat):Int) ∧
          f 48 = .int .i64 ((len2 0:Nat):Int)∧f 49 = .int .i64 ((j:Nat):Int)∧Ext w w'∧OMat w' gT gsT (len2 0) r2 (fun i j=>Y j i)∧WMat w' gO gs s1 (len2 0) true (fun _ _=>N + N + 1) (fun a b=>if a < i ∨ a = i∧b < j then mulM (len1 0) X Y a b else 0))
          (len2 0) ⟨0,rfl,Nat.zero_le _,rfl,rfl,rfl,rfl,rfl,rfl,rfl,rfl,hE,hT,hW.congr (fun a b _ _=>⟨Nat.le_refl _,by by_cases e:a < i <;> simp [e]⟩)⟩ ?_
         clear hW hE hT w3
         rintro m f w3 ⟨j,rfl,hj,hf0,hf9,hf11,hf12,hf43,hf44,hf48,hf49,hE,hT,hW⟩
         rw [ui hf0,ui hf9,ui hf11,ui hf12,ui hf43,ui hf44,ui hf48,ui hf49]
         clear hf0 hf9 hf11 hf12 hf43 hf44 hf48 hf49
         by_cases hjc:j < len2 0
         · refine gg ?_
           refine W_regD [(0,3),(1,3),(2,3),(3,0),(4,3),(5,3),(6,3),(7,3),(8,0),(9,3),(10,3),(11,3),(12,0),(13,1),(14,3),(15,2)] mixed (by kernel_rfl) (fun w4 hE4 _=>?_)
           obtain ⟨ad,cap,u,e,hu,hru⟩:=(hSa.ext (hE.trans hE4)).at hlt
           cases e
           have hT4:=hT.ext hE4
           have hTr:RowE (EI N) w4 (.slice (some ⟨gsT j,0,none⟩) r2 r2) r2 (fun t=>Y t j):=(hT4.row j hjc).read (fun t ht=>hSb.bd ht hjc) (by omega)
           have htc:w4.cell? ⟨gT,0 + j * 1,none⟩ = some (.slice (some ⟨gsT j,0,none⟩) r2 r2):=by rw [hT4.outer.cell,arr_at (by omega),Nat.zero_add,Nat.mul_one]
           have hW4:=hW.ext hE4
           have hx:=hW4.at hlt
           refine gg ?_
           refine R1_call1 (dot_ok _ _ r2 N (X i) (fun t=>Y t j) w4 (by rw [hq]; exact hru) hTr (by omega) hN) ?_
           rintro _ w5 ⟨hE5,x,y,rfl,hcv⟩
           refine ⟨hE5,?_⟩
           have ebd:Bd (N + N + 1) (sumTo r2 fun t=>X i t * Y t j):=sumTo_bd (by omega) fun t ht=>(hSa.bd hlt (by omega)).mul (hSb.bd ht hjc)
           refine gg ?_
           refine R1_storeE (.inl rfl) rfl rfl ((hW4.ext hE5).row i hlt) hjc (hcv.ev true ebd) ?_
           intro w6 hR6 hC6 hk6 hs6
           have hW6:=(hW4.ext hE5).put hlt hR6 hC6 hk6
           have hT6:=(((hT4.ext hE5).wm true (N:=N) (fun a b ha hb=>hSb.bd hb ha)).kp hk6 hC6 (fun h=>(hsep i hlt).1 h) (fun a ha h=>(hsep i hlt).2 a ha h)).o
           refine gg ?_
           have hgi:=hgs i hlt
           refine ⟨_,?_,j + 1,rfl,by omega,rfl,rfl,rfl,rfl,rfl,rfl,rfl,rfl,hC6.ext_of (hE.trans (hE4.trans hE5)) (fun b hb=>by omega),hT6,hW6.congr (fun a b ha hb=>⟨?_,?_⟩)⟩
           · omega
           · unfold set2; split <;> exact Nat.le_refl _
           · simp only [set2]
             by_cases e:a = i∧b = j
             · obtain ⟨rfl,rfl⟩:=e
               rw [if_pos ⟨rfl,rfl⟩,if_pos (by omega),mulM,hq]
             · rw [if_neg e]
               by_cases e2:a < i ∨ a = i∧b < j
               · rw [if_pos e2,if_pos (by omega)]
               · rw [if_neg e2,if_neg (by omega)]
         · refine gg ?_
           refine ⟨_,?_,i + 1,rfl,by omega,rfl,rfl,rfl,rfl,rfl,hE,hT,hW.congr (fun a b ha hb=>⟨Nat.le_refl _,?_⟩)⟩
           · omega
           · by_cases e2:a < i + 1
             · rw [if_pos e2,if_pos (by omega)]
             · rw [if_neg e2,if_neg (by omega)]
       · refine gg ?_
         have:i = s1:=by omega
         subst this
         refine ret2 (v:=.slice _ _ _) (v':=.bool _) rfl rfl rfl ?_
         unfold RMB
         rw [if_pos hok]
         exact ⟨_,rfl,hE,gO,gs,rfl,by omega,fun k hk=>by have:=hgs k hk; omega,(hW.congr (bn':=fun _ _=>N + N + 1) (M':=mulM (len1 0) X Y) (fun a b ha hb=>⟨Nat.le_refl _,by rw [if_pos ha]⟩)).o⟩
     · refine gg ?_
       refine W_seq ?_
       refine gg ?_
       exact ret2 (v:=.slice _ _ _) (v':=.bool _) rfl rfl rfl (rmb_bad (by simp [okMul,Ne.symm hq]) hE02)
   · refine gg ?_
     refine W_seq ?_
     refine gg ?_
     exact ret2 (v:=.slice _ _ _) (v':=.bool _) rfl rfl rfl (rmb_bad (by simp [okMul,hok1]) hE02)
 · have hok2:okM r2 len2 = false:=by simpa using hok2
   obtain ⟨hE2,rfl⟩:=hvt.no hok2
   have hE02:=hE1.trans hE2
   cases ok1
   · refine gg ?_
     refine W_seq ?_
     refine gg ?_
     exact ret2 (v:=.slice _ _ _) (v':=.bool _) rfl rfl rfl (rmb_bad (by simp [okMul,hok2]) hE02)
   · refine gg ?_
     refine W_seq ?_
     refine gg ?_
     exact ret2 (v:=.slice _ _ _) (v':=.bool _) rfl rfl rfl (rmb_bad (by simp [okMul,hok2]) hE02)
set_option maxHeartbeats 8000000 in
theorem rproduct_ok (va vb:Value) (r1 r2 N:Nat) (len1 len2:Nat→Nat) (X Y:Nat→Nat→Int) (w:World) (ha:MatE (EI N) w va r1 len1 X) (hb:MatE (EI N) w vb r2 len2 Y) (hN:N < 34359738368) :
 Meets Tryz.prog 58 #[va,vb] w (RMN w (okMul r1 r2 len1 len2) r1 (len2 0) (mulM (len1 0) X Y)):=by
 refine fn_W (n:=14) Tryz.func58 rfl rfl (by kernel_rfl) (by simp) ?_
 refine gg ?_
 refine R1_call2 (rmulM_ok va vb r1 r2 N len1 len2 X Y w ha hb hN) ?_
 intro v' w' hv
 by_cases hok:okMul r1 r2 len1 len2 = true
 · obtain ⟨u,rfl,hE,gO,gs,rfl,hrest⟩:=hv.get hok
   refine gg ?_
   refine ret1 (v:=.slice _ _ _) rfl rfl ?_
   unfold RMN
   rw [if_pos hok]
   exact ⟨hE,gO,gs,rfl,hrest⟩
 · obtain ⟨hE,rfl⟩:=hv.no (by simpa using hok)
   refine gg ?_
   refine ret1 (v:=.slice _ _ _) rfl rfl ?_
   unfold RMN
   rw [if_neg hok]
   exact ⟨hE,rfl⟩
end Go.Proofs.YtncbjgblcofddaaGreatDoor
namespace Go.Proofs.YtncbjgblcofddaaGreatDoor
open Go Go.Eng Go.Num Go.Proofs
def IVL (w:World) (n:Nat) (x y:Value) (z:Int):Prop:=∃ neg A l c,x = .bool neg∧y = .slice A l.length c∧l.length≤c∧c < 9223372036854775808∧Mag w A l∧l.length = n∧n≤140737488355328∧z = sg neg (val l)
theorem IVL.iv {w:World} {n N:Nat} {x y:Value} {z:Int} (h:IVL w n x y z) (hN:n≤N):IV w N x y z:=by
 obtain ⟨neg,A,l,c,h1,h2,h3,h4,h5,h6,h7,h8⟩:=h
 exact ⟨neg,A,l,c,h1,h2,h3,h4,h5,by omega,h8⟩
def RowL (w:World) (v:Value) (c:Nat) (M:Nat→Int) (L:Nat→Nat):Prop :=
 ∃ A cap,v = .slice A c cap∧c≤cap∧cap < 9223372036854775808∧c≤140737488355328∧∀ j,j < c→∃ ad x y,A = some ad∧w.cell? (ad.add (j * 2)) = some x∧w.cell? ((ad.add (j * 2)).add 1) = some y∧IVL w (L j) x y (M j)
def MatL (w:World) (v:Value) (r:Nat) (len:Nat→Nat) (M:Nat→Nat→Int) (L:Nat→Nat→Nat):Prop :=
 ∃ A cap,v = .slice A r cap∧r≤cap∧cap < 9223372036854775808∧r≤140737488355328∧∀ i,i < r→∃ ad u,A = some ad∧w.cell? (ad.add (i * 1)) = some u∧RowL w u (len i) (M i) (L i)
theorem RowL.e {w:World} {v:Value} {c N:Nat} {M:Nat→Int} {L:Nat→Nat} (h:RowL w v c M L) (hL:∀ j,j < c→L j≤N):RowE (EI N) w v c M:=by
 obtain ⟨A,cap,rfl,h1,h2,_,h3⟩:=h
 refine ⟨A,cap,rfl,h1,h2,fun j hj=>?_⟩
 obtain ⟨ad,x,y,e,hx,hy,hv⟩:=h3 j hj
 exact ⟨ad,x,y,e,hx,hy,hv.iv (hL j hj)⟩
theorem MatL.e {w:World} {v:Value} {r N:Nat} {len:Nat→Nat} {M:Nat→Nat→Int} {L:Nat→Nat→Nat} (h:MatL w v r len M L) (hL:∀ i,i < r→∀ j,j < len i→L i j≤N):MatE (EI N) w v r len M:=by
 obtain ⟨A,cap,rfl,h1,h2,_,h3⟩:=h
 refine ⟨A,cap,rfl,h1,h2,fun i hi=>?_⟩
 obtain ⟨ad,u,e,hu,hr⟩:=h3 i hi
 exact ⟨ad,u,e,hu,hr.e (hL i hi)⟩
section
variable {H:Type} {enc:TypeId × Value→H} {w:World} {sp:Nat→Bool} {hd:Bool}
theorem u32_of_wf {a:Int} (h:(Lit.int .u32 a).wf = true):0≤a∧a < 4294967296:=by
 simp [Lit.wf,IntKind.min,IntKind.max,IntKind.signed,IntKind.bits] at h
 omega
theorem cells_u32:Tryz.prog.cellsOf 107 = 1:=by kernel_rfl
theorem cells_Int:Tryz.prog.cellsOf 41 = 2:=by kernel_rfl
theorem cells_bool:Tryz.prog.cellsOf 4 = 1:=by kernel_rfl
theorem cells_su32:Tryz.prog.cellsOf 39 = 1:=by kernel_rfl
theorem cells_sInt:Tryz.prog.cellsOf 46 = 1:=by kernel_rfl
theorem bytes_u32:Tryz.prog.bytesOf 107 = 4:=by kernel_rfl
theorem bytes_Int:Tryz.prog.bytesOf 41 = 32:=by kernel_rfl
theorem bytes_sInt:Tryz.prog.bytesOf 46 = 24:=by kernel_rfl
def Wt (t:Nat) (d:DataW H):Prop:=∀ n ∈ d.weights Tryz.prog t,n≤reachBytes
theorem mem_weightsAll {e:Nat} {d:DataW H} {n:Nat} (hn:n ∈ d.weights Tryz.prog e):∀ {l:List (DataW H)},d ∈ l→n ∈ DataW.weightsAll Tryz.prog e l
 | x :: l,h=>by
  simp only [DataW.weightsAll,List.mem_append]
  rcases List.mem_cons.1 h with rfl | h
  · exact .inl hn
  · exact .inr (mem_weightsAll hn h)
theorem wt_slice {t e:Nat} {els spare:List (DataW H)} (hu:Tryz.prog.underlying t = some (.slice e)) (h:Wt t (.slice els spare)):(els.length + spare.length) * Tryz.prog.bytesOf e≤140737488351232∧∀ d ∈ els,Wt e d:=by
 have hd:DataW.weights Tryz.prog t (.slice els spare) = (els.length + spare.length) * Tryz.prog.bytesOf e :: (DataW.weightsAll Tryz.prog e els ++ DataW.weightsAll Tryz.prog e spare):=by rw [DataW.weights,hu]
 unfold Wt at h
 rw [hd] at h
 refine ⟨h _ List.mem_cons_self,fun d hdm n hn=>h n ?_⟩
 exact List.mem_cons_of_mem _ (List.mem_append_left _ (mem_weightsAll hn hdm))
theorem open_mag {fuel:Nat} {cs:List Value} {x:DataW H × List MemPlace} (h:DataW.trod enc Tryz.prog w 0 sp hd fuel 39 cs = some x) (hw:Wt 39 x.1) :
 ∃ A l c,cs = [.slice A l.length c]∧l.length≤c∧c < 9223372036854775808∧Mag w A l∧l.length≤140737488355328:=by
 rcases ChangeShapes.open_ints Tryz.underlying39 Tryz.underlying107 cells_u32 h with ⟨rfl,rfl⟩ | ⟨a,len,cap,zs,rfl,_,hl,hm,hz,rfl,hc,hwf⟩
 · exact ⟨none,[],0,rfl,Nat.le_refl _,by decide,Mag.nil _ _,by simp⟩
 · have hlen:len≤zs.length:=by rw [hz]; split <;> omega
   have hlim:∀ i,i < len→0≤zs.getD i 0∧zs.getD i 0 < 4294967296:=fun i hi=>by
    have:zs.getD i 0 ∈ zs:=by
     have hi':i < zs.length:=by omega
     simp [List.getD,hi']
    exact u32_of_wf (hwf _ this)
   have hww:=(wt_slice Tryz.underlying39 hw).1
   rw [bytes_u32] at hww
   have hle:(ChangeShapes.lits (H:=H) .u32 (zs.take len)).length = len:=by simp [ChangeShapes.lits,Nat.min_eq_left hlen]
   rw [hle] at hww
   refine ⟨some a,(List.range len).map (fun i=>(zs.getD i 0).toNat),cap,by simp,by simpa using hl,by have:maxLen = 9223372036854775807:=rfl; omega,⟨?_,?_⟩,?_⟩
   · intro y hy
     obtain ⟨i,hi,rfl⟩:=List.mem_map.1 hy
     have:=hlim i (by simpa using hi)
     omega
   · intro j hj
     have hj:j < len:=by simpa using hj
     refine ⟨a,rfl,?_⟩
     have hg:((List.range len).map (fun i=>(zs.getD i 0).toNat)).getD j 0 = (zs.getD j 0).toNat:=by
      rw [List.getD_eq_getElem?_getD,List.getElem?_map,List.getElem?_range hj]; rfl
     rw [Nat.mul_one,hc j (by omega),hg,Int.toNat_of_nonneg (hlim j hj).1]
   · rw [List.length_map,List.length_range]; omega
theorem two_of_len {l:List Value} (h:l.length = 2):∃ a b,l = [a,b]:=by
 match l,h with
 | [a,b],_=>exact ⟨a,b,rfl⟩
theorem open_Int {fuel:Nat} {cs:List Value} {x:DataW H × List MemPlace} (h:DataW.trod enc Tryz.prog w 0 sp hd fuel 41 cs = some x) (hw:Wt 41 x.1) :
 ∃ a b n z,cs = [a,b]∧IVL w n a b z:=by
 obtain ⟨y0,y1,n,rfl,hl,h0,h1⟩:=ChangeShapes.trod_struct2 Tryz.underlying41 h
 rw [cells_Int] at hl
 obtain ⟨a,b,rfl⟩:=two_of_len hl
 have h0:DataW.trod enc Tryz.prog w 0 sp hd n 4 (([a,b].drop 0).take (Tryz.prog.cellsOf 4)) = some y0:=h0
 have h1:DataW.trod enc Tryz.prog w 0 sp hd n 39 (([a,b].drop 1).take (Tryz.prog.cellsOf 39)) = some y1:=h1
 rw [cells_bool] at h0
 rw [cells_su32] at h1
 have h0:DataW.trod enc Tryz.prog w 0 sp hd n 4 [a] = some y0:=h0
 have h1:DataW.trod enc Tryz.prog w 0 sp hd n 39 [b] = some y1:=h1
 have hw1:Wt 39 y1.1:=fun m hm=>hw m (by
  have e:DataW.weights Tryz.prog 41 (.agg [y0.1,y1.1]) = DataW.weights Tryz.prog 4 y0.1 ++ (DataW.weights Tryz.prog 39 y1.1 ++ []):=by rw [DataW.weights,Tryz.underlying41]; rfl
  rw [e]
  exact List.mem_append_right _ (List.mem_append_left _ hm))
 obtain ⟨A,l,c,e,h2,h3,h4,h5⟩:=open_mag h1 hw1
 obtain ⟨b0,rfl⟩ : ∃ b0,a = .bool b0:=by
  cases n with
  | zero=>simp [DataW.trod] at h0
  | succ n =>
   clear h1 hw1 h4
   cases a <;> simp [DataW.trod,Tryz.underlying4] at h0
   exact ⟨_,rfl⟩
 injection e with e
 exact ⟨_,_,l.length,_,rfl,b0,A,l,c,rfl,e,h2,h3,h4,rfl,h5,rfl⟩
theorem open_row {fuel:Nat} {cs:List Value} {x:DataW H × List MemPlace} (h:DataW.trod enc Tryz.prog w 0 sp hd fuel 46 cs = some x) (hw:Wt 46 x.1) :
 ∃ v c M L,cs = [v]∧RowL w v c M L:=by
 rcases Deep.open_slice Tryz.underlying46 h with ⟨rfl,rfl⟩ | ⟨a,len,cap,m,n,D,Pl,rfl,_,hl,hm,hmm,rfl,hx⟩
 · exact ⟨_,0,fun _=>0,fun _=>0,rfl,none,0,rfl,Nat.le_refl _,by decide,by decide,fun j hj=>absurd hj (by omega)⟩
 · have hlm:len≤m:=by rw [hmm]; split <;> omega
   obtain ⟨hww,hwe⟩:=wt_slice Tryz.underlying46 hw
   rw [bytes_Int,List.length_map,List.length_range] at hww
   have hc:maxLen = 9223372036854775807:=rfl
   have each:∀ j,j < len→∃ q:Int × Nat,∃ x y,w.cell? (a.add (j * 2)) = some x∧w.cell? ((a.add (j * 2)).add 1) = some y∧IVL w q.2 x y q.1:=fun j hj=>by
    obtain ⟨cs',h1,h2⟩:=hx j (by omega)
    rw [cells_Int] at h1
    obtain ⟨x,y,n,z,rfl,hv⟩:=open_Int h2 (hwe _ (List.mem_map.2 ⟨j,by simpa using hj,rfl⟩))
    obtain ⟨_,_,h3⟩:=World.cells?_some h1
    exact ⟨(z,n),x,y,h3 0 (by decide),h3 1 (by decide),hv⟩
   obtain ⟨q,hq⟩:=Deep.choose_lt each
   refine ⟨_,len,fun j=>(q j).1,fun j=>(q j).2,rfl,some a,cap,rfl,hl,by omega,by omega,fun j hj=>?_⟩
   obtain ⟨x,y,h1,h2,h3⟩:=hq j hj
   exact ⟨a,x,y,rfl,h1,h2,h3⟩
theorem open_mat {v:Value} {d:DataW H} {ps:List MemPlace} (h:DataW.Trod enc Tryz.prog w 0 sp hd 22 v d ps) (hw:Wt 22 d) (hv:v.cells.toList = [v]) :
 ∃ r len M L,MatL w v r len M L:=by
 obtain ⟨fuel,h⟩:=h
 rw [hv] at h
 rcases Deep.open_slice1 Tryz.underlying22 cells_sInt h with ⟨e,e2⟩ | ⟨a,len,cap,m,n,V,D,Pl,e,_,hl,hm,hmm,e2,hx⟩
 · injection e with e
   subst e
   exact ⟨0,fun _=>0,fun _ _=>0,fun _ _=>0,none,0,rfl,Nat.le_refl _,by decide,by decide,fun j hj=>absurd hj (by omega)⟩
 · injection e with e
   subst e
   have hlm:len≤m:=by rw [hmm]; split <;> omega
   injection e2 with e2 e3
   subst e2
   obtain ⟨hww,hwe⟩:=wt_slice Tryz.underlying22 hw
   rw [bytes_sInt,List.length_map,List.length_range] at hww
   have hc:maxLen = 9223372036854775807:=rfl
   have each:∀ j,j < len→∃ q:Nat × (Nat→Int) × (Nat→Nat),∃ u,w.cell? (a.add (j * 1)) = some u∧RowL w u q.1 q.2.1 q.2.2:=fun j hj=>by
    obtain ⟨h1,h2⟩:=hx j (by omega)
    obtain ⟨u,c,M,L,e,hr⟩:=open_row h2 (hwe _ (List.mem_map.2 ⟨j,by simpa using hj,rfl⟩))
    injection e with e
    refine ⟨(c,M,L),u,?_,hr⟩
    rw [Nat.mul_one,h1,e]
   obtain ⟨q,hq⟩:=Deep.choose_lt each
   refine ⟨len,fun j=>(q j).1,fun j=>(q j).2.1,fun j=>(q j).2.2,some a,cap,rfl,hl,by omega,by omega,fun j hj=>?_⟩
   obtain ⟨u,h1,h2⟩:=hq j hj
   exact ⟨a,u,rfl,h1,h2⟩
end
end Go.Proofs.YtncbjgblcofddaaGreatDoor
namespace Go.Proofs.YtncbjgblcofddaaGreatDoor
open Go Go.Eng Go.Num Go.Proofs
def Sm (r:Nat) (len:Nat→Nat) (L:Nat→Nat→Nat):Prop:=r≤600∧∀ i,i < r→len i≤600∧∀ j,j < len i→L i j≤600
theorem Sm.e {w:World} {v:Value} {r:Nat} {len:Nat→Nat} {M:Nat→Nat→Int} {L:Nat→Nat→Nat} (h:Sm r len L) (hm:MatL w v r len M L):MatE (EI 600) w v r len M:=hm.e fun i hi j hj=>(h.2 i hi).2 j hj
set_option maxHeartbeats 8000000 in
theorem shapeX_ok (E:World→Value→Value→Int→Prop) (v:Value) (r:Nat) (len:Nat→Nat) (M:Nat→Nat→Int) (w:World) (h:MatE E w v r len M) :
 Meets Tryz.prog 62 #[v] w fun v' w'=>w = w'∧v' = shapeV r len:=by
 refine fn_W (n:=10) Tryz.func62 rfl rfl (by kernel_rfl) (by simp) ?_
 refine gg ?_
 refine R1_call2 (shape_ok E v r len M w h) ?_
 rintro _ _ ⟨rfl,rfl⟩
 obtain ⟨s1,c1,ok1,e1,_⟩:=shapeV_cases r len
 rw [e1]
 refine gg ?_
 exact ret3 (v:=.int _ _) (v':=.int _ _) (v'':=.bool _) rfl rfl rfl rfl ⟨rfl,rfl⟩
end Go.Proofs.YtncbjgblcofddaaGreatDoor
namespace Go.Proofs.YtncbjgblcofddaaGreatDoor
open Go Go.Eng Go.Num Go.Proofs
section
variable {P:Program} {n:Nat} {k:Nat} {K:Fr→World→Prop} {f:Fr} {w:World}
 {d ty t t2:Nat} {x y:Operand} {pos:String} {aft:Array Edge} {gd:Option (Nat × Bool)}
theorem R1_load1M {M:Nat→Prop} {p:Addr} {v:Value} (h3:k ≠ 3) (ht:oneTy P t = true) (hx:ev n f x = .pointer (some p)) (hc:w.cell? p = some v) (hn:¬ M p.block) (h:K (upd f d v) w) :
 R1 P n (Ch M) k ⟨some d,.load t x,ty,pos,aft,gd⟩ K f w:=by
 refine R1_read h3 (v:=v) (fun w' hw=>?_) h
 have hc':w'.cell? p = some v:=by
  rcases hw with hw | rfl
  · rw [cell_ch hw (World.block_lt_of_cell? w _ hc) hn]; exact hc
  · exact hc
 simp only [execOp,hx,Sem.run_bind,run_load_one ht hc',Result.andThen_ok,Sem.run_pure]
theorem W_regDM {Q:Exit→Fr→World→Prop} {id:Nat} {ops:Array Oper} (M:Nat→Prop) (ord:List (Nat × Nat)) (hm:P.follows .mixedOrders = true)
 (hlen:(ord.length == ops.size && Region.noSelect ops && ordOk ops (hot ord) ord (Array.replicate ops.size false)) = true)
 (h:∀ w',Ext w w'→w'.heap = w.heap→Ro P n ops (Ch M) (Q .normal) ord f w'):W P n (.region id ops true) Q f w :=
 W_draw (Ch M) (Ch_trans M) ord hm hlen (h _ (ch_drew w) rfl)
theorem R1_i8_i64 {a:Int} (hs:TyD P t (.int .i8)) (ht:TyD P t2 (.int .i64)) (hx:ev n f x = .int .i8 a) (h1:-128≤a) (h2:a < 128) {S:World→World→Prop} (h:K (upd f d (.int .i64 a)) w):R1 P n S k ⟨some d,.convert t t2 x,ty,pos,aft,gd⟩ K f w :=
 R1_conv hs ht hx (wrap_i64 (by omega) (by omega)) h
end
structure Nums (w:World) (A:Option Addr) (n:Nat) (ns:Nat→Int):Prop where
 cell:∀ i,i < n→∃ ad,A = some ad∧w.cell? (ad.add (i * 1)) = some (.int .i8 (ns i))∧-128≤ns i∧ns i < 128
 small:n≤140737488355328
theorem Nums.ext {w w':World} {A:Option Addr} {n:Nat} {ns:Nat→Int} (h:Nums w A n ns) (hE:Ext w w'):Nums w' A n ns :=
 ⟨fun i hi=>by obtain ⟨ad,e,hc,hr⟩:=h.cell i hi; exact ⟨ad,e,cell_ext hE hc,hr⟩,h.small⟩
def tp (n:Nat) (ns:Nat→Int) (k:Nat):Int:=if k < n then ns k else 0
theorem tp_range {w:World} {A:Option Addr} {n:Nat} {ns:Nat→Int} (h:Nums w A n ns) (k:Nat):-128≤tp n ns k∧tp n ns k < 128:=by
 unfold tp
 split
 · rename_i hk; obtain ⟨_,_,_,h⟩:=h.cell k hk; exact h
 · decide
def TapeB (w:World) (g:Nat) (A:Option Addr) (n c k:Nat):Prop:=Blk w g 135 #[.slice A n c,.int .i64 ((min k n:Nat):Int)]
theorem noU_tape {A:Option Addr} {n c:Nat} {z:Int}:NoU #[.slice A n c,.int .i64 z]:=by
 intro i z'
 match i with
 | 0=>simp
 | 1=>simp
 | i + 2=>simp
set_option maxHeartbeats 8000000 in
theorem next_ok (g:Nat) (A:Option Addr) (n c k:Nat) (ns:Nat→Int) (w0 w:World) (hE0:Ext w0 w) (hN:Nums w0 A n ns) (hg:w0.heap.size≤g) (hB:TapeB w g A n c k) :
 Meets Tryz.prog 115 #[.pointer (some ⟨g,0,none⟩)] w fun v w'=>v = .int .i64 (tp n ns k)∧TapeB w' g A n c (k + 1)∧Ch (fun b=>b = g) w w'∧Kp w w':=by
 refine fn_W (n:=32) Tryz.func115 rfl rfl (by kernel_rfl) (by simp) ?_
 have hsm:=hN.small
 unfold TapeB at hB
 by_cases hk:k < n
 · rw [show min k n = k by omega] at hB
   refine gg ?_
   refine W_seq ?_
   refine W_seqD [(0,3),(1,3),(2,3),(3,0),(4,3),(5,3),(6,3),(7,0),(8,3),(9,3)] mixed (by kernel_rfl) (fun w1 hE1 _=>?_)
   have hB1:=hB.ext hE1
   have f0:=blk0 hB1
   have f1:=blk1 hB1
   obtain ⟨ad,rfl,hc,hr1,hr2⟩:=(hN.ext (hE0.trans hE1)).cell k hk
   refine gg ?_
   refine R1_storeI (one_of rfl) (.inl rfl) rfl rfl hB1 (by simp) ?_
   intro w2 hB2 hC2 hs2
   have hk2:=kp_ch hB1 noU_tape hC2
   refine gg ?_
   refine W_seqD [(0,3),(1,3),(2,3),(3,0),(4,3),(5,3),(6,3),(7,0),(8,3),(9,3),(10,0),(11,3),(12,3)] mixed (by kernel_rfl) (fun w3 hE3 _=>?_)
   have hB3:Blk w3 g 135 #[.slice (some ad) n c,.int .i64 ((k + 1:Nat):Int)]:=hB2.ext hE3
   have f0:=blk0 hB3
   have f1:=blk1 hB3
   have hE03:Ext w0 w3:=(hC2.ext_of (hE0.trans hE1) (fun b hb=>by omega)).trans hE3
   obtain ⟨ad',e,hc,_⟩:=(hN.ext hE03).cell k hk
   injection e with e; subst e
   have hc':w3.cell? (ad.add ((k + 1 - 1) * 1)) = some (.int .i8 (ns k)):=hc
   refine gg ?_
   refine R1_i8_i64 ty_i8 ty_i64 rfl hr1 hr2 ?_
   refine gg ?_
   refine ret1 (v:=.int _ _) rfl rfl ⟨by rw [tp,if_pos hk],?_,(hE1.ch.trans hC2).trans hE3.ch,(kp_ext hE1).trans (hk2.trans (kp_ext hE3))⟩
   unfold TapeB
   rw [show min (k + 1) n = k + 1 by omega]
   exact hB3
 · rw [show min k n = n by omega] at hB
   refine gg ?_
   refine W_seq ?_
   refine W_seqD [(0,3),(1,3),(2,3),(3,0),(4,3),(5,3),(6,3),(7,0),(8,3),(9,3)] mixed (by kernel_rfl) (fun w1 hE1 _=>?_)
   have hB1:=hB.ext hE1
   have f0:=blk0 hB1
   have f1:=blk1 hB1
   refine gg ?_
   refine ret1 (v:=.int _ _) rfl rfl ⟨by rw [tp,if_neg hk]; rfl,?_,hE1.ch,kp_ext hE1⟩
   unfold TapeB
   rw [show min (k + 1) n = n by omega]
   exact hB1
def RowW (w:World) (g c:Nat) (M:Nat→Int):Prop:=Blk w g 2 (arr c fun j=>.int .i64 (M j))
theorem rowW_made {w:World} {g c:Nat} (h:Blk w g 2 (madeCells (Value.int .i64 0).cells (c * 1))):RowW w g c (fun _=>0):=by
 rw [arr_made,Nat.mul_one] at h
 unfold RowW
 have e:arr c (fun k=>(Value.int IntKind.i64 0).cells[k % (Value.int IntKind.i64 0).cells.size]!) = arr c fun _=>.int .i64 0:=arr_congr fun k _=>by simp [Value.cells,Nat.mod_one]
 rw [e] at h
 exact h
theorem RowW.congr {w:World} {g c:Nat} {M M':Nat→Int} (h:RowW w g c M) (e:∀ j,j < c→M j = M' j):RowW w g c M':=by
 unfold RowW at *
 rw [arr_congr (fun j hj=>by rw [← e j hj])]
 exact h
theorem RowW.set {w':World} {g c j:Nat} {M:Nat→Int} {z:Int} (h:Blk w' g 2 ((arr c fun j=>.int .i64 (M j)).setIfInBounds (0 + j * 1) (.int .i64 z))):RowW w' g c (setZ M j z):=by
 unfold RowW
 rw [arr_set,Nat.zero_add,Nat.mul_one] at h
 rw [arr_congr (fun k _=>?_)]
 · exact h
 · by_cases e:k = j
   · subst e; rw [upd_self]; simp [setZ]
   · rw [upd_ne _ _ e]; simp [setZ,e]
structure ZMat (w:World) (gO:Nat) (gs:Nat→Nat) (r c:Nat) (M:Nat→Nat→Int):Prop where
 outer:Blk w gO 85 (arr r fun i=>.slice (some ⟨gs i,0,none⟩) c c)
 row:∀ i,i < r→RowW w (gs i) c (M i)
 ne:∀ i,i < r→gs i ≠ gO
 inj:∀ i j,i < r→j < r→gs i = gs j→i = j
theorem ZMat.ext {w w':World} {gO:Nat} {gs:Nat→Nat} {r c:Nat} {M:Nat→Nat→Int} (h:ZMat w gO gs r c M) (hE:Ext w w'):ZMat w' gO gs r c M :=
 ⟨h.outer.ext hE,fun i hi=>Blk.ext (h.row i hi) hE,h.ne,h.inj⟩
theorem ZMat.read {w:World} {gO:Nat} {gs:Nat→Nat} {r c:Nat} {M:Nat→Nat→Int} (h:ZMat w gO gs r c M) (hM:∀ i j,i < r→j < c→-9223372036854775808≤M i j∧M i j < 9223372036854775808) (hr:r < 9223372036854775808) (hc:c < 9223372036854775808) :
 MatZ w (.slice (some ⟨gO,0,none⟩) r r) r (fun _=>c) M:=by
 refine ⟨_,_,rfl,Nat.le_refl _,hr,fun i hi=>⟨_,_,rfl,by rw [add_lit,h.outer.cell,arr_at (by omega),Nat.zero_add,Nat.mul_one],_,_,rfl,Nat.le_refl _,hc,fun j hj=>⟨_,rfl,?_,hM i j hi hj⟩⟩⟩
 have hb:Blk w (gs i) 2 (arr c fun j=>.int .i64 (M i j)):=h.row i hi
 have hj:j < c:=hj
 rw [add_lit,hb.cell,arr_at (by omega),Nat.zero_add,Nat.mul_one]
end Go.Proofs.YtncbjgblcofddaaGreatDoor
namespace Go.Proofs.YtncbjgblcofddaaGreatDoor
open Go Go.Eng Go.Num Go.Proofs
theorem MatL.ext {w w':World} {v:Value} {r:Nat} {len:Nat→Nat} {X:Nat→Nat→Int} {L:Nat→Nat→Nat} (h:MatL w v r len X L) (hE:Ext w w'):MatL w' v r len X L:=by
 obtain ⟨A,cap,rfl,h1,h2,h3,h4⟩:=h
 refine ⟨A,cap,rfl,h1,h2,h3,fun i hi=>?_⟩
 obtain ⟨ad,u,e,hu,A',cap',rfl,k1,k2,k3,k4⟩:=h4 i hi
 refine ⟨ad,_,e,cell_ext hE hu,A',cap',rfl,k1,k2,k3,fun j hj=>?_⟩
 obtain ⟨ad',x,y,e',hx,hy,neg,A'',l,c,p1,p2,p3,p4,p5,p6⟩:=k4 j hj
 exact ⟨ad',x,y,e',cell_ext hE hx,cell_ext hE hy,neg,A'',l,c,p1,p2,p3,p4,p5.ext hE,p6⟩
end Go.Proofs.YtncbjgblcofddaaGreatDoor
namespace Go.Proofs.YtncbjgblcofddaaGreatDoor
open Go Go.Eng Go.Num Go.Proofs
section
variable {H:Type} {enc:TypeId × Value→H} {w:World} {sp:Nat→Bool} {hd:Bool}
theorem cells_u8:Tryz.prog.cellsOf 5 = 1:=by kernel_rfl
theorem cells_i8:Tryz.prog.cellsOf 26 = 1:=by kernel_rfl
theorem cells_si8:Tryz.prog.cellsOf 23 = 1:=by kernel_rfl
theorem u8_of_wf {a:Int} (h:(Lit.int .u8 a).wf = true):0≤a∧a < 256:=by
 simp [Lit.wf,IntKind.min,IntKind.max,IntKind.signed,IntKind.bits] at h
 omega
theorem i8_of_wf {a:Int} (h:(Lit.int .i8 a).wf = true):-128≤a∧a < 128:=by
 simp [Lit.wf,IntKind.min,IntKind.max,IntKind.signed,IntKind.bits] at h
 omega
theorem bytes_i8:Tryz.prog.bytesOf 26 = 1:=by kernel_rfl
theorem open_i8s {fuel:Nat} {cs:List Value} {x:DataW H × List MemPlace} (h:DataW.trod enc Tryz.prog w 0 sp hd fuel 23 cs = some x) (hw:Wt 23 x.1) :
 ∃ A n c ns,cs = [.slice A n c]∧n≤c∧Nums w A n ns:=by
 rcases ChangeShapes.open_ints Tryz.underlying23 Tryz.underlying26 cells_i8 h with ⟨rfl,rfl⟩ | ⟨a,len,cap,zs,rfl,_,hl,hm,hz,rfl,hc,hwf⟩
 · exact ⟨none,0,0,fun _=>0,rfl,Nat.le_refl _,fun j hj=>absurd hj (by omega),by decide⟩
 · have hlen:len≤zs.length:=by rw [hz]; split <;> omega
   have hlim:∀ i,i < len→-128≤zs.getD i 0∧zs.getD i 0 < 128:=fun i hi=>by
    have:zs.getD i 0 ∈ zs:=by
     have hi':i < zs.length:=by omega
     simp [List.getD,hi']
    exact i8_of_wf (hwf _ this)
   have hww:=(wt_slice Tryz.underlying23 hw).1
   rw [bytes_i8] at hww
   have hle:(ChangeShapes.lits (H:=H) .i8 (zs.take len)).length = len:=by simp [ChangeShapes.lits,Nat.min_eq_left hlen]
   rw [hle] at hww
   refine ⟨some a,len,cap,fun i=>zs.getD i 0,rfl,hl,fun j hj=>⟨a,rfl,?_,hlim j hj⟩,by omega⟩
   rw [Nat.mul_one]; exact hc j (by omega)
theorem open_u8 {fuel:Nat} {a:Value} {x:DataW H × List MemPlace} (h:DataW.trod enc Tryz.prog w 0 sp hd fuel 5 [a] = some x):∃ r:Nat,a = .int .u8 ((r:Nat):Int)∧r < 256:=by
 cases fuel with
 | zero=>simp [DataW.trod] at h
 | succ n =>
  cases a <;> simp [DataW.trod,Tryz.underlying5] at h
  rename_i z
  obtain ⟨⟨rfl,hf⟩,hx⟩:=h
  have:=u8_of_wf hf
  exact ⟨z.toNat,by rw [Int.toNat_of_nonneg this.1],by omega⟩
theorem agg_of {P:Program} {W:World} {r:Reach} {b t:Nat} {v:Value} {fs:Array Field} (hu:P.underlying t = some (.struct fs)) (h:Value.okWide P W r b t v):∃ cs,v = .agg cs:=by
 simp only [Value.okWide,hu] at h
 obtain ⟨cs,e,_⟩:=h
 exact ⟨cs,e⟩
end
theorem cells_slice {P:Program} {W:World} {r:Reach} {b t e:Nat} {v:Value} (hu:P.underlying t = some (.slice e)) (h:Value.okWide P W r b t v):v.cells.toList = [v]:=by
 cases v <;> simp [Value.okWide,hu,Cell.okWide,Cell.ok] at h
 rfl
theorem wt_of {H:Type} {ts:List TypeId} {ds:List (DataW H)} (h:(DataW.weightsEach Tryz.prog ts ds).all (·≤reachBytes) = true) {j:Nat} {t:TypeId} {d:DataW H} (ht:ts[j]? = some t) (hd:ds[j]? = some d):Wt t d:=fun n hn=>by
 have:=List.all_eq_true.1 h _ (DataW.weights_mem_each ht hd n hn)
 simpa using this
end Go.Proofs.YtncbjgblcofddaaGreatDoor
