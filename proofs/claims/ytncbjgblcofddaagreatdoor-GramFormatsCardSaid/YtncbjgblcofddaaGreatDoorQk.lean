/- Joined: Rsq. -/
import Derived.Test.YtncbjgblcofddaaGreatDoorQj
import Derived.Test.YtncbjgblcofddaaGreatDoorQi
/- The reference's Square,Det; matrix.Adjugate; the reference's Times. -/
namespace Go.Proofs.YtncbjgblcofddaaGreatDoor
open Go Go.Eng Go.Num Go.Proofs
def sqV (r:Nat) (len:Nat→Nat):Value:=.tuple #[.int .i64 (((if okS r len then r else 0:Nat)):Int),.bool (okS r len)]
theorem sqV_cases (r:Nat) (len:Nat→Nat):∃ (s:Nat),sqV r len = .tuple #[.int .i64 ((s:Nat):Int),.bool (okS r len)]∧s = if okS r len then r else 0:=⟨_,rfl,rfl⟩
theorem okS_of {r:Nat} {len:Nat→Nat}:okS r len = (okM r len && decide (r = len 0)):=rfl
set_option maxHeartbeats 8000000 in
theorem rsquare_ok (E:World→Value→Value→Int→Prop) (v:Value) (r:Nat) (len:Nat→Nat) (M:Nat→Nat→Int) (w:World) (h:MatE E w v r len M) :
 Meets Tryz.prog 65 #[v] w fun u w'=>Ext w w'∧u = sqV r len:=by
 refine fn_W (n:=21) Tryz.func65 rfl rfl (by kernel_rfl) (by simp) ?_
 refine gg ?_
 refine R1_call2 (rshape_ok E v r len M w h) ?_
 rintro _ w1 ⟨hE1,rfl⟩
 obtain ⟨s,c,ok,e,hc⟩:=shapeV_cases r len
 rw [e]
 rcases hc with ⟨h1,rfl,rfl,rfl⟩ | ⟨h1,rfl,rfl,rfl⟩
 · refine gg ?_
   refine W_seq ?_
   by_cases hs:s = len 0
   · refine gg ?_
     refine ret2 rfl rfl rfl ⟨hE1,?_⟩
     unfold sqV
     rw [okS_of,h1,decide_eq_true hs]; rfl
   · refine gg ?_
     refine ret2 rfl rfl rfl ⟨hE1,?_⟩
     unfold sqV
     rw [okS_of,h1,decide_eq_false hs]; rfl
 · refine gg ?_
   refine W_seq ?_
   refine gg ?_
   refine ret2 rfl rfl rfl ⟨hE1,?_⟩
   unfold sqV
   rw [okS_of,h1]; rfl
set_option maxHeartbeats 8000000 in
theorem adjugateX_ok (v:Value) (r N:Nat) (len:Nat→Nat) (M:Nat→Nat→Int) (w:World) (h:MatE (EI N) w v r len M) (hN1:1≤N) (hN:N < 1048576) :
 Meets Tryz.prog 84 #[v] w (RMB w (okS r len) r r (adjF r M)):=by
 refine fn_W (n:=22) Tryz.func84 rfl rfl (by kernel_rfl) (by simp) ?_
 refine gg ?_
 refine R1_call2 (shape_ok (EI N) v r len M w h) ?_
 rintro _ w1 ⟨hw1,rfl⟩
 have hE1:Ext w w1:=by rw [← hw1]; exact Ext.refl _
 obtain ⟨s,c,ok,e,hc⟩:=shapeV_cases r len
 rw [e]
 rcases hc with ⟨h1,rfl,rfl,rfl⟩ | ⟨h1,rfl,rfl,rfl⟩
 · refine gg ?_
   refine W_seq ?_
   by_cases hs:s = len 0
   · have hok:okS s len = true:=by rw [okS_of,h1,decide_eq_true hs]; rfl
     have hsq:=okS_iff.1 hok
     refine gg ?_
     refine R1_call2 (adjugate_ok v s N M w1 ((h.sq hsq.2.2).ext hE1) hsq.1 hsq.2.1 hN1 hN) ?_
     intro u w2 hu
     refine gg ?_
     exact ret2 rfl rfl rfl (rmb_ok hok hE1 hu)
   · refine gg ?_
     exact ret2 rfl rfl rfl (rmb_bad (by rw [okS_of,h1,decide_eq_false hs]; rfl) hE1)
 · refine gg ?_
   refine W_seq ?_
   refine gg ?_
   exact ret2 rfl rfl rfl (rmb_bad (by rw [okS_of,h1]; rfl) hE1)
def timesM (a:Int) (M:Nat→Nat→Int):Nat→Nat→Int:=fun i j=>a * M i j
set_option maxHeartbeats 16000000 in
theorem rtimes_ok (x y v:Value) (a:Int) (r c N:Nat) (M:Nat→Nat→Int) (w:World) (hx:IV w N x y a) (h:MatE (EI N) w v r (fun _=>c) M) (hr:r≤1048576) (hc1:1≤c) (hc:c≤1048576) (hN:N < 68719476736) :
 Meets Tryz.prog 34 #[.agg #[x,y],v] w (RG w r c (N + N) (timesM a M)):=by
 obtain ⟨A,cap,rfl,_⟩:=id h
 refine fn_W (n:=41) Tryz.func34 rfl rfl (by kernel_rfl) (by simp) ?_
 refine gg ?_
 refine R1_box (v:=.agg _) (.inl rfl) rfl ?_
 intro w1 hB1 hE1 hs1
 have hC1:Bx w1 w.heap.size N false a:=⟨x,y,hB1,hx.ext hE1,fun e=>by cases e⟩
 obtain ⟨gC,hgC⟩ : ∃ g,g = w.heap.size:=⟨_,rfl⟩
 rw [← hgC] at hC1 ⊢
 clear hB1
 refine gg ?_
 refine R1_call2 (rcopy_ok _ r c N M w1 (h.ext hE1) hr hc1 hc (by omega)) ?_
 rintro _ w2 ⟨hE2,gO,gs,cp,rfl,hgO,hgs0,hgs,hW⟩
 have hC2:=hC1.ext hE2
 have hE:=hE1.trans hE2
 have hCO:gC < gO:=by omega
 clear hC1 hE2 hE1 hgO hgs0
 replace hW:GMat w2 gO gs cp r c true (fun _ _=>N + N) M:=hW.congr fun _ _ _ _=>⟨by omega,rfl⟩
 have hbd:∀ i j,i < r→j < c→Bd N (M i j):=fun i j hi hj=>h.bd hi hj
 refine gg ?_
 refine W_seqM (fun f w'=>f 5 = .slice (some ⟨gO,0,none⟩) r r∧Ext w w'∧GMat w' gO gs cp r c true (fun _ _=>N + N) (timesM a M)) ?_ ?_
 · refine gg ?_
   refine W_loop (fun m f w'=>∃ i,m = r - i∧i≤r∧f 2 = .pointer (some ⟨gC,0,none⟩)∧f 5 = .slice (some ⟨gO,0,none⟩) r r∧f 11 = .int .i64 ((r:Nat):Int)∧f 12 = .int .i64 ((i:Nat):Int)∧Ext w w'∧Bx w' gC N false a∧GMat w' gO gs cp r c true (fun _ _=>N + N) (fun p q=>if p < i then timesM a M p q else M p q))
    r ⟨0,rfl,Nat.zero_le _,rfl,rfl,rfl,rfl,hE,hC2,hW.congr fun _ _ _ _=>⟨Nat.le_refl _,by rw [if_neg (by omega)]⟩⟩ ?_
   clear hC2 hE hW w2
   rintro m f w2 ⟨i,rfl,hi,hf2,hf5,hf11,hf12,hE,hC,hW⟩
   rw [ui hf2,ui hf5,ui hf11,ui hf12]
   clear hf2 hf5 hf11 hf12
   by_cases hlt:i < r
   · have hxi:=hW.at hlt
     obtain ⟨g0,hg0⟩ : ∃ g,g = gs i:=⟨_,rfl⟩
     obtain ⟨c0,hc0⟩ : ∃ g,g = cp i:=⟨_,rfl⟩
     rw [← hg0,← hc0] at hxi
     refine gg ?_
     refine W_loop (fun m f w'=>∃ j,m = c - j∧j≤c∧f 2 = .pointer (some ⟨gC,0,none⟩)∧f 5 = .slice (some ⟨gO,0,none⟩) r r∧f 11 = .int .i64 ((r:Nat):Int)∧f 12 = .int .i64 ((i:Nat):Int)∧f 6 = .int .i64 ((i:Nat):Int)∧f 18 = .slice (some ⟨g0,0,none⟩) c c0∧f 19 = .int .i64 ((c:Nat):Int)∧f 20 = .int .i64 ((j:Nat):Int)∧Ext w w'∧Bx w' gC N false a∧GMat w' gO gs cp r c true (fun _ _=>N + N) (fun p q=>if p < i ∨ p = i∧q < j then timesM a M p q else M p q))
      c ⟨0,rfl,Nat.zero_le _,rfl,rfl,rfl,rfl,rfl,rfl,rfl,rfl,hE,hC,hW.congr fun p q _ _=>⟨Nat.le_refl _,?_⟩⟩ ?_
     · by_cases h1:p < i
       · rw [if_pos h1,if_pos (.inl h1)]
       · rw [if_neg h1,if_neg (by omega)]
     clear hE hC hW hxi w2
     rintro m f w2 ⟨j,rfl,hj,hf2,hf5,hf11,hf12,hf6,hf18,hf19,hf20,hE,hC,hW⟩
     rw [ui hf2,ui hf5,ui hf11,ui hf12,ui hf6,ui hf18,ui hf19,ui hf20]
     clear hf2 hf5 hf11 hf12 hf6 hf18 hf19 hf20
     by_cases hjl:j < c
     · refine gg ?_
       refine W_regD [(0,3),(1,3),(2,3),(3,0),(4,3),(5,0),(6,3),(7,3),(8,3),(9,0),(10,3),(11,3),(12,0),(13,1),(14,3),(15,2)] mixed (by kernel_rfl) (fun w3 hE3 _=>?_)
       have hW3:=hW.ext hE3
       have hxi:=hW3.at hlt
       obtain ⟨x1,y1,hx1,hy1,hv1⟩:=(hW3.row i hlt).at hjl
       obtain ⟨lx,ly,hLB,hLv⟩:=hC.ext hE3
       obtain ⟨hl1,hl2⟩:=blkP hLB
       simp only at hv1
       rw [if_neg (by omega)] at hv1
       have hv1':IV w3 N x1 y1 (M i j):=(hv1.2 rfl).iv (hbd i j hlt hjl)
       refine gg ?_
       refine R1_call1 (rmul_ok _ _ _ _ _ _ N w3 hLv.1 hv1' (by omega)) ?_
       rintro _ w4 ⟨hE4,a1,b1,rfl,hc1⟩
       refine ⟨hE4,?_⟩
       refine gg ?_
       refine R1_storeG (.inl rfl) rfl rfl ((hW3.ext hE4).row i hlt) hjl (hc1.ev true (hLv.bd.mul (hbd i j hlt hjl))) ?_
       intro w5 hR5 hC5 hk5 hs5
       have hW5:=(hW3.ext hE4).put hlt hR5 hC5 hk5
       have hgi:=hgs i hlt
       have hCl:=hC.lt
       refine gg ?_
       refine ⟨_,?_,j + 1,rfl,by omega,rfl,rfl,rfl,rfl,rfl,rfl,rfl,rfl,hC5.ext_of (hE.trans (hE3.trans hE4)) (fun b hb=>by omega),(hC.ext (hE3.trans hE4)).kp hk5 hC5 (by omega),hW5.congr fun p q _ _=>⟨?_,?_⟩⟩
       · omega
       · simp only [set2]; split <;> omega
       · simp only [set2]
         by_cases e:p = i∧q = j
         · obtain ⟨rfl,rfl⟩:=e
           rw [if_pos ⟨rfl,rfl⟩,if_pos (by omega)]; rfl
         · rw [if_neg e]
           by_cases h1:p < i ∨ p = i∧q < j
           · rw [if_pos h1,if_pos (by omega)]
           · rw [if_neg h1,if_neg (by omega)]
     · refine gg ?_
       refine ⟨_,?_,i + 1,rfl,by omega,rfl,rfl,rfl,rfl,hE,hC,hW.congr fun p q _ _=>⟨Nat.le_refl _,?_⟩⟩
       · omega
       · by_cases h1:p < i + 1
         · rw [if_pos (by omega),if_pos h1]
         · rw [if_neg (by omega),if_neg h1]
   · refine gg ?_
     refine ⟨rfl,hE,hW.congr fun p q _ _=>⟨Nat.le_refl _,by rw [if_pos (by omega)]⟩⟩
 clear hC2 hE hW w2
 rintro f w2 ⟨hf5,hE,hW⟩
 rw [ui hf5]
 clear hf5
 refine gg ?_
 exact ret1 rfl rfl ⟨hE,gO,gs,cp,rfl,by omega,fun i hi=>by have:=hgs i hi; omega,hgs,hW⟩
end Go.Proofs.YtncbjgblcofddaaGreatDoor
