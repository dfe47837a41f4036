/- Joined: Sca, Osu. -/
import Derived.Test.YtncbjgblcofddaaGreatDoorQoo
import Derived.Test.YtncbjgblcofddaaGreatDoorQd
import Derived.Test.YtncbjgblcofddaaGreatDoorQon
/- gram.Scale and the reference's. -/
namespace Go.Proofs.YtncbjgblcofddaaGreatDoor
open Go Go.Eng Go.Num Go.Proofs
open Go.Det (det)
def Part (w:World) (gO r i c:Nat) (gs:Nat→Nat) (NN:Nat) (F:Nat→Nat→Int):Prop :=
 Outer 46 w gO r i c gs∧(∀ k,k < i→RowB w (gs k) c true (fun _=>NN) (F k)∧gO < gs k)∧(∀ k k',k < i→k' < i→gs k = gs k'→k = k')
section
variable {w w':World} {gO r i c NN:Nat} {gs:Nat→Nat} {F F':Nat→Nat→Int}
theorem Part.ext (h:Part w gO r i c gs NN F) (hE:Ext w w'):Part w' gO r i c gs NN F :=
 ⟨h.1.ext hE,fun k hk'=>⟨(h.2.1 k hk').1.ext hE,(h.2.1 k hk').2⟩,h.2.2⟩
theorem Part.congr (h:Part w gO r i c gs NN F) (e:∀ k j,k < i→j < c→F k j = F' k j):Part w gO r i c gs NN F' :=
 ⟨h.1,fun k hk=>⟨(h.2.1 k hk).1.congr fun j hj=>⟨Nat.le_refl _,e k j hk hj⟩,(h.2.1 k hk).2⟩,h.2.2⟩
theorem Part.lt (h:Part w gO r i c gs NN F):gO < w.heap.size∧∀ k,k < i→gs k < w.heap.size:=⟨h.1.lt,fun k hk=>(h.2.1 k hk).1.lt⟩
theorem Part.put {k j N:Nat} {z:Int} (h:Part w gO r i c gs NN F) (hk:k < i) (hN:N≤NN) (hr:RowB w' (gs k) c true (setN (fun _=>NN) j N) (setZ (F k) j z)) (hC:Ch (fun b=>b = gs k) w w') (hkp:Kp w w'):Part w' gO r i c gs NN (set2 F k j z):=by
 refine ⟨h.1.kp hC (fun e=>by have:=(h.2.1 k hk).2; omega),fun k' hk'=>⟨?_,(h.2.1 k' hk').2⟩,h.2.2⟩
 by_cases e:k' = k
 · subst e
   refine hr.congr fun q _=>⟨?_,?_⟩
   · simp only [setN]; split <;> omega
   · simp only [set2,setZ]
     by_cases e2:q = j
     · rw [if_pos e2,if_pos ⟨trivial,e2⟩]
     · rw [if_neg e2,if_neg (fun h=>e2 h.2)]
 · rw [set2_ne F j z e]
   exact (h.2.1 k' hk').1.kp hkp hC (fun e'=>e (h.2.2 k' k hk' hk e'))
theorem Part.add {g:Nat} (h:Part w gO r i c gs NN F) (hO:Outer 46 w' gO r (i + 1) c (setN gs i g)) (hg:∀ k,k < i→gs k < g) (hrow:RowB w' g c true (fun _=>NN) (F i)) (hgo:gO < g) (hC:Ch (fun b=>b = gO) w w') (hkp:Kp w w'):Part w' gO r (i + 1) c (setN gs i g) NN F:=by
 refine ⟨hO,fun k hk=>?_,fun k k' hk hk' e=>?_⟩
 · by_cases e:k = i
   · subst e
     simp only [setN,if_true]
     exact ⟨hrow,hgo⟩
   · simp only [setN,if_neg e]
     obtain ⟨h1,h2⟩:=h.2.1 k (by omega)
     exact ⟨h1.kp hkp hC (by omega),h2⟩
 · simp only [setN] at e
   split at e <;> split at e
   · omega
   · have:=hg k' (by omega); omega
   · have:=hg k (by omega); omega
   · exact h.2.2 k k' (by omega) (by omega) e
theorem Part.full (h:Part w gO r r c gs NN F):WMat w gO gs r c true (fun _ _=>NN) F :=
 ⟨h.1.full,fun k hk=>(h.2.1 k hk).1,fun k hk=>by have:=(h.2.1 k hk).2; omega,h.2.2⟩
end
def RMe (w:World) (e c:Nat) (A:Nat→Nat→Int) (v:Value) (w':World):Prop :=
 Ext w w'∧((e ≠ 0∧v = .tuple #[.slice none 0 0,.int .i64 ((e:Nat):Int)]) ∨ (e = 0∧∃ gO gs,v = .tuple #[.slice (some ⟨gO,0,none⟩) c c,.int .i64 ((0:Nat):Int)]∧OMat w' gO gs c c A))
theorem RMe.rd {w:World} {e c N:Nat} {A:Nat→Nat→Int} {v:Value} {w':World} (h:RMe w e c A v w') (hA:e = 0→c≤16∧∀ i j,i < c→j < c→Bd N (A i j)) :
 Ext w w'∧∃ a m cp,v = .tuple #[.slice a m cp,.int .i64 ((e:Nat):Int)]∧MatE (EC N) w' (.slice a m cp) (if e = 0 then c else 0) (fun _=>c) A:=by
 obtain ⟨hE,⟨h0,rfl⟩ | ⟨h0,gO,gs,rfl,hO⟩⟩:=h
 · exact ⟨hE,_,_,_,rfl,by rw [if_neg h0]; exact matC_nil _ _ _ _⟩
 · obtain ⟨h1,h2⟩:=hA h0
   exact ⟨hE,_,_,_,by rw [h0],by rw [if_pos h0]; exact hO.readC h2 (by omega) (by omega)⟩
noncomputable def scE (r:Nat) (len:Nat→Nat) (M:Nat→Nat→Int) (z:Int):Nat :=
 if valE r len M = 0 then (if 0 < z then 0 else 1) else valE r len M
theorem scE_le (r:Nat) (len:Nat→Nat) (M:Nat→Nat→Int) (z:Int):scE r len M z≤5:=by
 have:=valE_le r len M
 unfold scE
 split
 · split <;> omega
 · exact this
set_option maxHeartbeats 32000000 in
theorem scale_ok (va x y:Value) (r N:Nat) (len:Nat→Nat) (M:Nat→Nat→Int) (z:Int) (w:World) (ha:MatE (EI N) w va r len M) (hz:IV w N x y z) (hN1:1≤N) (hN:N < 1048576) :
 Meets Tryz.prog 50 #[va,.agg #[x,y]] w (RMe w (scE r len M z) r (timesM z M)):=by
 refine fn_W (n:=55) Tryz.func50 rfl rfl (by kernel_rfl) (by simp) ?_
 have bz:Bd N z:=hz.bd
 have ha0:=ha
 have hX:Ext w w:=Ext.refl w
 refine gg ?_
 refine R1_box (v:=.agg _) (.inl rfl) rfl ?_
 intro w_1 hB0_ hE_ hs_
 have hC1:Blk w_1 w.heap.size 41 #[x,y]:=hB0_
 obtain ⟨gC,hg_⟩ : ∃ g,g = w.heap.size:=⟨_,rfl⟩
 rw [← hg_] at hC1 ⊢
 have hfr_gC:w.heap.size≤gC:=by have:=hX.size; omega
 replace ha:=ha.ext hE_
 replace hX:=hX.trans hE_
 clear hB0_ hs_ hg_ hE_
 have hC:Bx w_1 gC N false z:=⟨x,y,hC1,hz.ext hX,fun e=>by cases e⟩
 have fC:w.heap.size≤gC:=hfr_gC
 refine gg ?_
 refine W_seq ?_
 refine gg ?_
 refine gg ?_
 refine R1_call2 (validate_ok va r N len M w_1 ha hN1 hN) ?_
 rintro _ w_2 ⟨hE_,rfl⟩
 replace ha:=ha.ext hE_
 replace hC:=hC.ext hE_
 replace hX:=hX.trans hE_
 clear hE_
 have h5:=valE_le r len M
 by_cases h0:valE r len M = 0
 rotate_left
 · have e0:scE r len M z = valE r len M:=by unfold scE; rw [if_neg h0]
   refine gg ?_
   exact ret2 (v:=.slice _ _ _) (v':=.int _ _) rfl rfl rfl ⟨hX,.inl ⟨by rw [e0]; exact h0,by rw [e0]⟩⟩
 obtain ⟨hok,h8,_⟩:=valE_zero.1 h0
 obtain ⟨hr1,hr2,hlen⟩:=okS_iff.1 hok
 have hM:=ha0.sq hlen
 have bM:∀ i j,i < r→j < r→Bd N (M i j):=fun i j hi hj=>hM.bd hi hj
 refine gg ?_
 refine W_seq ?_
 obtain ⟨hC_u,hC_v,hC_B,hC_V⟩:=id hC
 obtain ⟨hC_0,hC_1⟩:=blkP hC_B
 refine gg ?_
 refine gg ?_
 refine R1_call2 (sign_ok _ _ _ _ w_2 hC_V.1 (by omega)) ?_
 rintro _ w_3 ⟨hE_,rfl⟩
 replace ha:=ha.ext hE_
 replace hC:=hC.ext hE_
 replace hX:=hX.trans hE_
 clear hE_
 by_cases hz0:0 < z
 rotate_left
 · have e0:scE r len M z = 1:=by unfold scE; rw [if_pos h0,if_neg hz0]
   have hs:z.sign≤0:=by
    rcases Int.lt_trichotomy z 0 with h | h | h
    · rw [Int.sign_eq_neg_one_of_neg h]; decide
    · rw [h]; decide
    · omega
   refine gg ?_
   exact ret2 (v:=.slice _ _ _) (v':=.int _ _) rfl rfl rfl ⟨hX,.inl ⟨by rw [e0]; decide,by rw [e0]⟩⟩
 have e0:scE r len M z = 0:=by unfold scE; rw [if_pos h0,if_pos hz0]
 have hs:¬ z.sign≤0:=by rw [Int.sign_eq_one_of_pos hz0]; decide
 obtain ⟨ad,capa,_,rfl,_,_⟩:=hM.at (show 0 < r by omega)
 clear hC_0 hC_1 ha0
 refine gg ?_
 refine R1_make sl_sInt (.inl rfl) rfl rfl (Nat.le_refl _) (by omega) (by omega) ?_
 intro w2 hB2 hE2 hs2
 obtain ⟨gO,hgO⟩ : ∃ g,g = (w_3).heap.size:=⟨_,rfl⟩
 rw [← hgO] at hB2 ⊢
 have hP:Part w2 gO r 0 r (fun _=>0) (N + N) (fun k j=>if k < 0 then timesM z M k j else 0):=⟨outer_made hB2,fun k hk=>absurd hk (by omega),fun k k' hk=>absurd hk (by omega)⟩
 have hlC:=hC.lt
 have hsz:=hX.size
 replace hC:=hC.ext hE2
 replace hX:=hX.trans hE2
 have fO:w.heap.size≤gO∧gC < gO:=by omega
 clear hB2 hE2 hs2
 refine gg ?_
 refine W_seqM (fun f w'=>∃ gs,f 7 = .slice (some ⟨gO,0,none⟩) r r∧Ext w w'∧WMat w' gO gs r r true (fun _ _=>N + N) (timesM z M)) ?_ ?_
 · refine gg ?_
   refine W_loop (fun m f w'=>∃ i gs,m = r - i∧i≤r∧f 3 = .pointer (some ⟨gC,0,none⟩)∧f 7 = .slice (some ⟨gO,0,none⟩) r r∧f 0 = .slice (some ad) r capa∧f 23 = .slice (some ad) r capa∧f 24 = .int .i64 ((r:Nat):Int)∧f 25 = .int .i64 ((i:Nat):Int)∧Ext w w'∧Bx w' gC N false z∧Part w' gO r i r gs (N + N) (fun k j=>if k < i then timesM z M k j else 0))
    r ⟨0,fun _=>0,rfl,Nat.zero_le _,rfl,rfl,rfl,rfl,rfl,rfl,hX,hC,hP⟩ ?_
   clear hX hC hP hgO hlC hsz
   rintro m f w3 ⟨i,gs,rfl,hi,hf3,hf7,hf0,hf23,hf24,hf25,hX,hC,hP⟩
   rw [ui hf3,ui hf7,ui hf0,ui hf23,ui hf24,ui hf25]
   clear hf3 hf7 hf0 hf23 hf24 hf25
   by_cases hlt:i < r
   · skip
     obtain ⟨_,_,vr,e,hu,hru⟩:=hM.at hlt
     cases e
     obtain ⟨ai,capi,_,_,rfl,_,_,_⟩:=hru.at (show 0 < r by omega)
     replace hu:=cell_ext hX hu
     refine gg ?_
     refine R1_make sl_Int (.inl rfl) rfl rfl (Nat.le_refl _) (by omega) (by omega) ?_
     intro w4 hB4 hE4 hs4
     refine gg ?_
     refine R1_storeRow (one_of rfl) (.inl rfl) rfl rfl (hP.1.ext hE4) hlt ?_
     intro w5 ⟨_,hO5⟩ hC5 hk5 hs5
     have hl:=hP.lt
     have hx:=hX.size
     have hlC:=hC.lt
     have hP5:Part w5 gO r (i + 1) r (setN gs i w3.heap.size) (N + N) (fun k j=>if k < i then timesM z M k j else 0) :=
      (hP.ext hE4).add (hO5 rfl) hl.2 (((rowB_made true (N + N) hB4).kp hk5 hC5 (by omega)).congr fun j _=>⟨Nat.le_refl _,by rw [if_neg (by omega)]⟩) hl.1 hC5 hk5
     have hX5:=hC5.ext_of (hX.trans hE4) (fun b hb=>by omega)
     have hC5':=(hC.ext hE4).kp hk5 hC5 (by omega)
     have hfg:w.heap.size≤w3.heap.size∧gC < w3.heap.size:=⟨hx,hlC⟩
     clear hX hC hP hB4 hE4 hs4 hO5 hC5 hk5 hs5 hu
     generalize hgs':setN gs i w3.heap.size = gs' at hP5
     have hgi:gs' i = w3.heap.size:=by rw [← hgs']; simp [setN]
     refine gg ?_
     refine W_loop (fun m f w'=>∃ j,m = r - j∧j≤r∧f 3 = .pointer (some ⟨gC,0,none⟩)∧f 7 = .slice (some ⟨gO,0,none⟩) r r∧f 0 = .slice (some ad) r capa∧f 23 = .slice (some ad) r capa∧f 24 = .int .i64 ((r:Nat):Int)∧f 25 = .int .i64 ((i:Nat):Int)∧f 8 = .int .i64 ((i:Nat):Int)∧f 36 = .slice (some ai) r capi∧f 37 = .int .i64 ((r:Nat):Int)∧f 38 = .int .i64 ((j:Nat):Int)∧Ext w w'∧Bx w' gC N false z∧Part w' gO r (i + 1) r gs' (N + N) (fun k q=>if k < i ∨ k = i∧q < j then timesM z M k q else 0))
      r ⟨0,rfl,Nat.zero_le _,rfl,rfl,rfl,rfl,rfl,rfl,rfl,rfl,rfl,rfl,hX5,hC5',hP5.congr fun k q _ _=>?_⟩ ?_
     · by_cases h1:k < i
       · rw [if_pos h1,if_pos (.inl h1)]
       · rw [if_neg h1,if_neg (by omega)]
     clear hX5 hC5' hP5
     rintro m f w6 ⟨j,rfl,hj,hf3,hf7,hf0,hf23,hf24,hf25,hf8,hf36,hf37,hf38,hX,hC,hP⟩
     rw [ui hf3,ui hf7,ui hf0,ui hf23,ui hf24,ui hf25,ui hf8,ui hf36,ui hf37,ui hf38]
     clear hf3 hf7 hf0 hf23 hf24 hf25 hf8 hf36 hf37 hf38
     by_cases hjl:j < r
     · skip
       obtain ⟨_,_,x1,y1,e,hx1,hy1,hv1⟩:=hru.at hjl
       cases e
       replace hx1:=cell_ext hX hx1
       replace hy1:=cell_ext hX hy1
       replace hv1:=hv1.ext hX
       have hX:Ext w w6:=hX
       refine gg ?_
       have hK:Ext w6 w6:=Ext.refl _
       refine gg ?_
       refine R1_alloc (.inl rfl) z_Int ?_
       intro w_4 hB0_ hE_ hs_
       have h9:=Bx.zero (N:=1) true hB0_
       obtain ⟨g9,hg_⟩ : ∃ g,g = w6.heap.size:=⟨_,rfl⟩
       rw [← hg_] at h9 ⊢
       have hfr_g9:w.heap.size≤g9:=by have:=hX.size; omega
       have hfr_hK_g9:w6.heap.size≤g9:=by have:=hK.size; omega
       have hne_g9_gC:g9 ≠ gC:=by have:=hC.lt; omega
       replace hC:=hC.ext hE_
       replace hv1:=hv1.ext hE_
       replace hK:=hK.trans hE_
       replace hX:=hX.trans hE_
       clear hB0_ hs_ hg_ hE_
       replace h9:=h9.un
       refine gg ?_
       refine gg ?_
       refine R1_storeBx (by first | exact .inl rfl | exact .inr ⟨rfl,fun _ h=>h.mono fun b _ e=>by omega⟩) rfl rfl h9 (⟨hv1,fun e=>by cases e⟩) ?_
       intro w_5 h9 hC_ hk_ hs_
       replace hC:=hC.kp hk_ hC_ (by first | omega | assumption)
       replace hv1:=hv1.kp hk_
       replace hK:=hC_.ext_of hK (fun b hb=>by omega)
       replace hX:=hC_.ext_of hX (fun b hb=>by omega)
       clear hC_ hk_ hs_
       refine gg ?_
       clear hx1 hy1
       refine gg ?_
       refine W_regD [(0,3),(1,3),(2,3),(3,0),(4,3),(5,0),(6,0),(7,1),(8,3),(9,2)] mixed (by kernel_rfl) (fun w_6 hE_ _=>?_)
       replace hC:=hC.ext hE_
       replace hv1:=hv1.ext hE_
       replace hK:=hK.trans hE_
       replace h9:=h9.ext hE_
       replace hX:=hX.trans hE_
       clear hE_
       have hox:=(hP.ext hK).1.at (show i < i + 1 by omega) hlt
       obtain ⟨hC_u,hC_v,hC_B,hC_V⟩:=id hC
       obtain ⟨hC_0,hC_1⟩:=blkP hC_B
       obtain ⟨h9_u,h9_v,h9_B,h9_V⟩:=id h9
       obtain ⟨h9_0,h9_1⟩:=blkP h9_B
       refine gg ?_
       refine gg ?_
       refine R1_call1 (mul_ok _ _ _ _ _ _ N w_6 hC_V.1 h9_V.1 (by omega)) ?_
       rintro _ w_7 ⟨hE_,a0,a1,rfl,hm⟩
       refine ⟨hE_,?_⟩
       replace hC:=hC.ext hE_
       replace hv1:=hv1.ext hE_
       replace hK:=hK.trans hE_
       replace h9:=h9.ext hE_
       replace hX:=hX.trans hE_
       clear hE_
       clear hox hC_0 hC_1 h9_0 h9_1
       have hrow:=((hP.ext hK).2.1 i (by omega)).1
       refine gg ?_
       refine R1_storeE (.inl rfl) rfl rfl hrow hjl (hm.ev true (bz.mul (bM i j hlt hjl))) ?_
       intro w9 hR9 hC9 hk9 hs9
       have hP9:=(hP.ext hK).put (show i < i + 1 by omega) (Nat.le_refl _) hR9 hC9 hk9
       have hX9:=hC9.ext_of hX (fun b hb=>by omega)
       have hC9':=hC.kp hk9 hC9 (by omega)
       refine gg ?_
       refine ⟨_,?_,j + 1,rfl,by omega,rfl,rfl,rfl,rfl,rfl,rfl,rfl,rfl,rfl,rfl,hX9,hC9',hP9.congr fun k q _ _=>?_⟩
       · omega
       · simp only [set2]
         by_cases e:k = i∧q = j
         · obtain ⟨rfl,rfl⟩:=e
           rw [if_pos ⟨rfl,rfl⟩,if_pos (by omega)]; rfl
         · rw [if_neg e]
           by_cases h1:k < i ∨ k = i∧q < j
           · rw [if_pos h1,if_pos (by omega)]
           · rw [if_neg h1,if_neg (by omega)]
     · refine gg ?_
       obtain rfl:j = r:=by omega
       refine ⟨_,?_,i + 1,gs',rfl,by omega,rfl,rfl,rfl,rfl,rfl,rfl,hX,hC,hP.congr fun k q hk hq=>?_⟩
       · omega
       · rw [if_pos (by omega),if_pos hk]
   · refine gg ?_
     obtain rfl:i = r:=by omega
     exact ⟨gs,rfl,hX,(hP.full).congr fun k q hk _=>⟨Nat.le_refl _,by rw [if_pos hk]⟩⟩
 clear hX hC hP
 rintro f w' ⟨gs,hf7,hX,hW⟩
 rw [ui hf7]
 refine gg ?_
 exact ret2 (v:=.slice _ _ _) (v':=.int _ _) rfl rfl rfl ⟨hX,.inr ⟨e0,gO,gs,rfl,hW.o⟩⟩
theorem scaleR_ok (va x y:Value) (r N:Nat) (len:Nat→Nat) (M:Nat→Nat→Int) (z:Int) (w:World) (ha:MatE (EI N) w va r len M) (hz:IV w N x y z) (hN1:1≤N) (hN:N < 1048576) :
 Meets Tryz.prog 50 #[va,.agg #[x,y]] w fun v w'=>Ext w w'∧∃ a m cp,v = .tuple #[.slice a m cp,.int .i64 ((scE r len M z:Nat):Int)]∧MatE (EC (N + N)) w' (.slice a m cp) (if scE r len M z = 0 then r else 0) (fun _=>r) (timesM z M) :=
 (scale_ok va x y r N len M z w ha hz hN1 hN).mono fun _ _ h=>h.rd fun h0=>by
  have h0':valE r len M = 0:=by
   unfold scE at h0
   split at h0
   · assumption
   · exact absurd h0 (by assumption)
  obtain ⟨hok,h8,_⟩:=valE_zero.1 h0'
  obtain ⟨hr1,hr2,hlen⟩:=okS_iff.1 hok
  exact ⟨hr2,fun i j hi hj=>hz.bd.mul ((ha.sq hlen).bd hi hj)⟩
set_option maxHeartbeats 32000000 in
theorem rscaleR_ok (va x y:Value) (r N:Nat) (len:Nat→Nat) (M:Nat→Nat→Int) (z:Int) (w:World) (ha:MatE (EI N) w va r len M) (hz:IV w N x y z) (hN1:1≤N) (hN:N < 1048576) :
 Meets Tryz.prog 51 #[va,.agg #[x,y]] w fun v w'=>Ext w w'∧∃ a m cp,v = .tuple #[.slice a m cp,.int .i64 ((scE r len M z:Nat):Int)]∧MatE (EC (N + N)) w' (.slice a m cp) (if scE r len M z = 0 then r else 0) (fun _=>r) (timesM z M):=by
 refine fn_W (n:=18) Tryz.func51 rfl rfl (by kernel_rfl) (by simp) ?_
 have bz:Bd N z:=hz.bd
 have ha0:=ha
 have hX:Ext w w:=Ext.refl w
 refine gg ?_
 refine R1_box (v:=.agg _) (.inl rfl) rfl ?_
 intro w_1 hB0_ hE_ hs_
 have hC1:Blk w_1 w.heap.size 41 #[x,y]:=hB0_
 obtain ⟨gC,hg_⟩ : ∃ g,g = w.heap.size:=⟨_,rfl⟩
 rw [← hg_] at hC1 ⊢
 have hfr_gC:w.heap.size≤gC:=by have:=hX.size; omega
 replace ha:=ha.ext hE_
 replace hX:=hX.trans hE_
 clear hB0_ hs_ hg_ hE_
 have hC:Bx w_1 gC N false z:=⟨x,y,hC1,hz.ext hX,fun e=>by cases e⟩
 have fC:w.heap.size≤gC:=hfr_gC
 refine gg ?_
 refine W_seq ?_
 refine gg ?_
 refine gg ?_
 refine R1_call2 (rvalidate_ok va r N len M w_1 ha hN1 hN) ?_
 rintro _ w_2 ⟨hE_,rfl⟩
 replace ha:=ha.ext hE_
 replace hC:=hC.ext hE_
 replace hX:=hX.trans hE_
 clear hE_
 have h5:=valE_le r len M
 by_cases h0:valE r len M = 0
 rotate_left
 · have e0:scE r len M z = valE r len M:=by unfold scE; rw [if_neg h0]
   refine gg ?_
   exact ret2 (v:=.slice _ _ _) (v':=.int _ _) rfl rfl rfl ⟨hX,_,_,_,by rw [e0],by rw [if_neg (by rw [e0]; exact h0)]; exact matC_nil _ _ _ _⟩
 obtain ⟨hok,h8,_⟩:=valE_zero.1 h0
 obtain ⟨hr1,hr2,hlen⟩:=okS_iff.1 hok
 have hM:=ha0.sq hlen
 have bM:∀ i j,i < r→j < r→Bd N (M i j):=fun i j hi hj=>hM.bd hi hj
 refine gg ?_
 refine W_seq ?_
 obtain ⟨hC_u,hC_v,hC_B,hC_V⟩:=id hC
 obtain ⟨hC_0,hC_1⟩:=blkP hC_B
 refine gg ?_
 refine gg ?_
 refine R1_call2 (rsign_ok _ _ _ _ w_2 hC_V.1 (by omega)) ?_
 rintro _ w_3 ⟨hE_,rfl⟩
 replace ha:=ha.ext hE_
 replace hC:=hC.ext hE_
 replace hX:=hX.trans hE_
 clear hE_
 by_cases hz0:0 < z
 rotate_left
 · have e0:scE r len M z = 1:=by unfold scE; rw [if_pos h0,if_neg hz0]
   have hs:z.sign≤0:=by
    rcases Int.lt_trichotomy z 0 with h | h | h
    · rw [Int.sign_eq_neg_one_of_neg h]; decide
    · rw [h]; decide
    · omega
   refine gg ?_
   exact ret2 (v:=.slice _ _ _) (v':=.int _ _) rfl rfl rfl ⟨hX,_,_,_,by rw [e0],by rw [if_neg (by rw [e0]; decide)]; exact matC_nil _ _ _ _⟩
 have e0:scE r len M z = 0:=by unfold scE; rw [if_pos h0,if_pos hz0]
 have hs:¬ z.sign≤0:=by rw [Int.sign_eq_one_of_pos hz0]; decide
 clear hC_0 hC_1
 obtain ⟨hC_u,hC_v,hC_B,hC_V⟩:=id hC
 obtain ⟨hC_0,hC_1⟩:=blkP hC_B
 refine gg ?_
 refine gg ?_
 refine R1_call2 (rtimes_ok _ _ _ _ r r N M w_3 hC_V.1 (hM.ext hX) (by omega) hr1 (by omega) (by omega)) ?_
 rintro _ w_4 ⟨hE_,gT,gsT,cpT,rfl,_,_,_,hGT⟩
 replace ha:=ha.ext hE_
 replace hC:=hC.ext hE_
 replace hX:=hX.trans hE_
 clear hE_
 refine gg ?_
 exact ret2 (v:=.slice _ _ _) (v':=.int _ _) rfl rfl rfl ⟨hX,_,_,_,by rw [e0],by rw [if_pos e0]; exact hGT.readC (by omega)⟩
end Go.Proofs.YtncbjgblcofddaaGreatDoor
namespace Go.Proofs.YtncbjgblcofddaaGreatDoor
open Go Go.Eng Go.Num Go.Proofs
open Go.Det (det)
def upto (A:Nat→Nat→Int) (a b:Nat):Nat→Nat→Int:=fun p q=>if p < a ∨ p = a∧q < b then A p q else 0
theorem upto_put (A:Nat→Nat→Int) (a b p q:Nat):set2 (upto A a b) a b (A a b) p q = upto A a (b + 1) p q:=by
 simp only [set2,upto]
 by_cases e:p = a∧q = b
 · obtain ⟨rfl,rfl⟩:=e
   rw [if_pos ⟨rfl,rfl⟩,if_pos (by omega)]
 · rw [if_neg e]
   by_cases h1:p < a ∨ p = a∧q < b
   · rw [if_pos h1,if_pos (by omega)]
   · rw [if_neg h1,if_neg (by omega)]
theorem upto_row {A:Nat→Nat→Int} {a b n:Nat} (h:∀ q,b≤q→q < n→A a q = 0) (p q:Nat) (hq:q < n):upto A a b p q = upto A (a + 1) 0 p q:=by
 simp only [upto]
 by_cases h1:p < a ∨ p = a∧q < b
 · rw [if_pos h1,if_pos (by omega)]
 · rw [if_neg h1]
   by_cases h2:p = a
   · subst h2
     rw [if_pos (by omega),h q (by omega) hq]
   · rw [if_neg (by omega)]
theorem upto_start {A:Nat→Nat→Int} {a b:Nat} (h:∀ q,q < b→A a q = 0) (p q:Nat):upto A a 0 p q = upto A a b p q:=by
 simp only [upto]
 by_cases h1:p < a
 · rw [if_pos (.inl h1),if_pos (.inl h1)]
 · rw [if_neg (by omega)]
   by_cases h2:p = a∧q < b
   · rw [if_pos (.inr h2),h2.1,h q h2.2]
   · rw [if_neg (by omega)]
def osM (r:Nat) (M M2:Nat→Nat→Int):Nat→Nat→Int:=fun p q=>if p < r∧q < r then M p q else if r≤p∧r≤q then M2 (p - r) (q - r) else 0
theorem osM_1 {r p q:Nat} {M M2:Nat→Nat→Int} (h1:p < r) (h2:q < r):osM r M M2 p q = M p q:=if_pos ⟨h1,h2⟩
theorem osM_2 {r p q:Nat} {M M2:Nat→Nat→Int}:osM r M M2 (r + p) (r + q) = M2 p q:=by
 unfold osM
 rw [if_neg (by omega),if_pos (by omega),Nat.add_sub_cancel_left,Nat.add_sub_cancel_left]
theorem osM_r {r p q:Nat} {M M2:Nat→Nat→Int} (h1:p < r) (h2:r≤q):osM r M M2 p q = 0:=by
 unfold osM
 rw [if_neg (by omega),if_neg (by omega)]
theorem osM_l {r p q:Nat} {M M2:Nat→Nat→Int} (h2:q < r):osM r M M2 (r + p) q = 0:=by
 unfold osM
 rw [if_neg (by omega),if_neg (by omega)]
theorem osM_bd {r r2 N p q:Nat} {M M2:Nat→Nat→Int} (h1:∀ i j,i < r→j < r→Bd N (M i j)) (h2:∀ i j,i < r2→j < r2→Bd N (M2 i j)) (hp:p < r + r2) (hq:q < r + r2):Bd N (osM r M M2 p q):=by
 unfold osM
 split
 · rename_i h; exact h1 p q h.1 h.2
 · split
   · exact h2 _ _ (by omega) (by omega)
   · exact Bd.zero N
noncomputable def osE (r:Nat) (len:Nat→Nat) (M:Nat→Nat→Int) (r2:Nat) (len2:Nat→Nat) (M2:Nat→Nat→Int):Nat :=
 if valE r len M = 0 then (if valE r2 len2 M2 = 0 then (if r + r2≤8 then 0 else 7) else valE r2 len2 M2) else valE r len M
theorem osE_le (r:Nat) (len:Nat→Nat) (M:Nat→Nat→Int) (r2:Nat) (len2:Nat→Nat) (M2:Nat→Nat→Int):osE r len M r2 len2 M2≤7:=by
 have:=valE_le r len M
 have:=valE_le r2 len2 M2
 unfold osE
 split
 · split
   · split <;> omega
   · omega
 · omega
theorem os_bd {va vb:Value} {r r2 N:Nat} {len len2:Nat→Nat} {M M2:Nat→Nat→Int} {w:World} (ha:MatE (EI N) w va r len M) (hb:MatE (EI N) w vb r2 len2 M2) (h:osE r len M r2 len2 M2 = 0):r + r2≤16∧∀ i j,i < r + r2→j < r + r2→Bd N (osM r M M2 i j):=by
 unfold osE at h
 split at h
 · rename_i h0
   split at h
   · rename_i h1
     split at h
     · obtain ⟨hok,h8,_⟩:=valE_zero.1 h0
       obtain ⟨hr1,hr2,hlen⟩:=okS_iff.1 hok
       obtain ⟨hok',h8',_⟩:=valE_zero.1 h1
       obtain ⟨hr1',hr2',hlen'⟩:=okS_iff.1 hok'
       exact ⟨by omega,fun i j hi hj=>osM_bd (fun i j hi hj=>(ha.sq hlen).bd hi hj) (fun i j hi hj=>(hb.sq hlen').bd hi hj) hi hj⟩
     · omega
   · exact absurd h (by assumption)
 · exact absurd h (by assumption)
theorem WMat.up {w w':World} {gO n a b N:Nat} {gs:Nat→Nat} {A:Nat→Nat→Int} (h:WMat w gO gs n n true (fun _ _=>N) (upto A a b)) (ha:a < n) (hr:RowB w' (gs a) n true (setN (fun _=>N) b N) (setZ (upto A a b a) b (A a b))) (hC:Ch (fun b=>b = gs a) w w') (hk:Kp w w'):WMat w' gO gs n n true (fun _ _=>N) (upto A a (b + 1)) :=
 (h.put ha hr hC hk).congr fun p q _ _=>⟨by simp only [set2]; split <;> exact Nat.le_refl _,upto_put A a b p q⟩
set_option maxHeartbeats 32000000 in
theorem osum_ok (va vb:Value) (r r2 N:Nat) (len len2:Nat→Nat) (M M2:Nat→Nat→Int) (w:World) (ha:MatE (EI N) w va r len M) (hb:MatE (EI N) w vb r2 len2 M2) (hN1:1≤N) (hN:N < 1048576) :
 Meets Tryz.prog 52 #[va,vb] w (RMe w (osE r len M r2 len2 M2) (r + r2) (osM r M M2)):=by
 refine fn_W (n:=104) Tryz.func52 rfl rfl (by kernel_rfl) (by simp) ?_
 have ha0:=ha
 have hb0:=hb
 have hX:Ext w w:=Ext.refl w
 refine gg ?_
 refine W_seq ?_
 refine gg ?_
 refine gg ?_
 refine R1_call2 (validate_ok va r N len M w ha hN1 hN) ?_
 rintro _ w_1 ⟨hE_,rfl⟩
 replace ha:=ha.ext hE_
 replace hb:=hb.ext hE_
 replace hX:=hX.trans hE_
 clear hE_
 have h5:=valE_le r len M
 have h6:=valE_le r2 len2 M2
 by_cases h0:valE r len M = 0
 rotate_left
 · have e0:osE r len M r2 len2 M2 = valE r len M:=by unfold osE; rw [if_neg h0]
   refine gg ?_
   exact ret2 (v:=.slice _ _ _) (v':=.int _ _) rfl rfl rfl ⟨hX,.inl ⟨by rw [e0]; exact h0,by rw [e0]⟩⟩
 refine gg ?_
 refine W_seq ?_
 refine gg ?_
 refine gg ?_
 refine R1_call2 (validate_ok vb r2 N len2 M2 w_1 hb hN1 hN) ?_
 rintro _ w_2 ⟨hE_,rfl⟩
 replace ha:=ha.ext hE_
 replace hb:=hb.ext hE_
 replace hX:=hX.trans hE_
 clear hE_
 by_cases h1:valE r2 len2 M2 = 0
 rotate_left
 · have e0:osE r len M r2 len2 M2 = valE r2 len2 M2:=by unfold osE; rw [if_pos h0,if_neg h1]
   refine gg ?_
   exact ret2 (v:=.slice _ _ _) (v':=.int _ _) rfl rfl rfl ⟨hX,.inl ⟨by rw [e0]; exact h1,by rw [e0]⟩⟩
 obtain ⟨hok,h8,_⟩:=valE_zero.1 h0
 obtain ⟨hr1,hr2,hlen⟩:=okS_iff.1 hok
 obtain ⟨hok',h8',_⟩:=valE_zero.1 h1
 obtain ⟨hr1',hr2',hlen'⟩:=okS_iff.1 hok'
 have hM:=ha0.sq hlen
 have hM2:=hb0.sq hlen'
 have bM:∀ i j,i < r→j < r→Bd N (M i j):=fun i j hi hj=>hM.bd hi hj
 have bM2:∀ i j,i < r2→j < r2→Bd N (M2 i j):=fun i j hi hj=>hM2.bd hi hj
 obtain ⟨ad,capa,_,rfl,_,_⟩:=hM.at (show 0 < r by omega)
 obtain ⟨bd,capb,_,rfl,_,_⟩:=hM2.at (show 0 < r2 by omega)
 obtain ⟨n,hn⟩ : ∃ n,n = r + r2:=⟨_,rfl⟩
 rw [← hn]
 refine gg ?_
 rw [← hn]
 refine W_seq ?_
 by_cases h9:n≤8
 rotate_left
 · have e0:osE r len M r2 len2 M2 = 7:=by unfold osE; rw [if_pos h0,if_pos h1,if_neg (by omega)]
   refine gg ?_
   exact ret2 (v:=.slice _ _ _) (v':=.int _ _) rfl rfl rfl ⟨hX,.inl ⟨by rw [e0]; decide,by rw [e0]⟩⟩
 have e0:osE r len M r2 len2 M2 = 0:=by unfold osE; rw [if_pos h0,if_pos h1,if_pos (by omega)]
 refine gg ?_
 refine R1_make sl_sInt (.inl rfl) rfl rfl (Nat.le_refl _) (by omega) (by omega) ?_
 intro w2 hB2 hE2 hs2
 obtain ⟨gO,hgO⟩ : ∃ g,g = (w_2).heap.size:=⟨_,rfl⟩
 rw [← hgO] at hB2 ⊢
 have hP:Part w2 gO n 0 n (fun _=>0) N (fun _ _=>0):=⟨outer_made hB2,fun k hk=>absurd hk (by omega),fun k k' hk=>absurd hk (by omega)⟩
 have hsz:=hX.size
 replace hX:=hX.trans hE2
 have fO:w.heap.size≤gO:=by omega
 clear hB2 hE2 hs2
 refine gg ?_
 refine W_seqM (fun f w'=>∃ gs,f 0 = .slice (some ad) r capa∧f 1 = .slice (some bd) r2 capb∧f 8 = .int .i64 ((n:Nat):Int)∧f 9 = .slice (some ⟨gO,0,none⟩) n n∧Ext w w'∧(∀ i,i < n→gO < gs i)∧WMat w' gO gs n n true (fun _ _=>N) (fun _ _=>0)) ?_ ?_
 · refine gg ?_
   refine W_loop (fun m f w'=>∃ i gs,m = n - i∧i≤n∧f 0 = .slice (some ad) r capa∧f 1 = .slice (some bd) r2 capb∧f 8 = .int .i64 ((n:Nat):Int)∧f 9 = .slice (some ⟨gO,0,none⟩) n n∧f 38 = .slice (some ⟨gO,0,none⟩) n n∧f 39 = .int .i64 ((n:Nat):Int)∧f 40 = .int .i64 ((i:Nat):Int)∧Ext w w'∧Part w' gO n i n gs N (fun _ _=>0))
    n ⟨0,fun _=>0,rfl,Nat.zero_le _,rfl,rfl,rfl,rfl,rfl,rfl,rfl,hX,hP⟩ ?_
   clear hX hP hgO hsz
   rintro m f w3 ⟨i,gs,rfl,hi,hf0,hf1,hf8,hf9,hf38,hf39,hf40,hX,hP⟩
   rw [ui hf0,ui hf1,ui hf8,ui hf9,ui hf38,ui hf39,ui hf40]
   clear hf0 hf1 hf8 hf9 hf38 hf39 hf40
   by_cases hlt:i < n
   · refine gg ?_
     refine R1_make sl_Int (.inl rfl) rfl rfl (Nat.le_refl _) (by omega) (by omega) ?_
     intro w4 hB4 hE4 hs4
     refine gg ?_
     refine R1_storeRow (one_of rfl) (.inl rfl) rfl rfl (hP.1.ext hE4) hlt ?_
     intro w5 ⟨_,hO5⟩ hC5 hk5 hs5
     have hl:=hP.lt
     have hP5:Part w5 gO n (i + 1) n (setN gs i w3.heap.size) N (fun _ _=>0) :=
      (hP.ext hE4).add (hO5 rfl) hl.2 ((rowB_made true N hB4).kp hk5 hC5 (by omega)) hl.1 hC5 hk5
     have hX5:=hC5.ext_of (hX.trans hE4) (fun b hb=>by omega)
     refine gg ?_
     refine ⟨_,?_,i + 1,_,rfl,by omega,rfl,rfl,rfl,rfl,rfl,rfl,rfl,hX5,hP5⟩
     omega
   · refine gg ?_
     obtain rfl:i = n:=by omega
     exact ⟨gs,rfl,rfl,rfl,rfl,hX,fun k hk=>(hP.2.1 k hk).2,hP.full⟩
 clear hX hP
 rintro f w' ⟨gs,hf0,hf1,hf8,hf9,hX,hgs,hW⟩
 rw [ui hf0,ui hf1,ui hf8,ui hf9]
 clear hf0 hf1 hf8 hf9
 refine W_seqM (fun f w'=>f 0 = .slice (some ad) r capa∧f 1 = .slice (some bd) r2 capb∧f 8 = .int .i64 ((n:Nat):Int)∧f 9 = .slice (some ⟨gO,0,none⟩) n n∧Ext w w'∧WMat w' gO gs n n true (fun _ _=>N) (upto (osM r M M2) r 0)) ?_ ?_
 · refine gg ?_
   refine W_loop (fun m f w'=>∃ i,m = r - i∧i≤r∧f 0 = .slice (some ad) r capa∧f 1 = .slice (some bd) r2 capb∧f 8 = .int .i64 ((n:Nat):Int)∧f 9 = .slice (some ⟨gO,0,none⟩) n n∧f 49 = .slice (some ad) r capa∧f 50 = .int .i64 ((r:Nat):Int)∧f 51 = .int .i64 ((i:Nat):Int)∧Ext w w'∧WMat w' gO gs n n true (fun _ _=>N) (upto (osM r M M2) i 0))
    r ⟨0,rfl,Nat.zero_le _,rfl,rfl,rfl,rfl,rfl,rfl,rfl,hX,hW.congr fun p q _ _=>⟨Nat.le_refl _,by simp only [upto]; rw [if_neg (by omega)]⟩⟩ ?_
   clear hX hW
   rintro m f w3 ⟨i,rfl,hi,hf0,hf1,hf8,hf9,hf49,hf50,hf51,hX,hW⟩
   rw [ui hf0,ui hf1,ui hf8,ui hf9,ui hf49,ui hf50,ui hf51]
   clear hf0 hf1 hf8 hf9 hf49 hf50 hf51
   by_cases hlt:i < r
   · skip
     obtain ⟨_,_,vr,e,hu,hru⟩:=hM.at hlt
     cases e
     obtain ⟨ai,capi,_,_,rfl,_,_,_⟩:=hru.at (show 0 < r by omega)
     replace hu:=cell_ext hX hu
     have han:i < n:=by omega
     refine gg ?_
     clear hu
     refine W_loop (fun m f w'=>∃ j,m = r - j∧j≤r∧f 0 = .slice (some ad) r capa∧f 1 = .slice (some bd) r2 capb∧f 8 = .int .i64 ((n:Nat):Int)∧f 9 = .slice (some ⟨gO,0,none⟩) n n∧f 49 = .slice (some ad) r capa∧f 50 = .int .i64 ((r:Nat):Int)∧f 51 = .int .i64 ((i:Nat):Int)∧f 11 = .int .i64 ((i:Nat):Int)∧f 56 = .slice (some ai) r capi∧f 57 = .int .i64 ((r:Nat):Int)∧f 58 = .int .i64 ((j:Nat):Int)∧Ext w w'∧WMat w' gO gs n n true (fun _ _=>N) (upto (osM r M M2) i j))
      r ⟨0,rfl,Nat.zero_le _,rfl,rfl,rfl,rfl,rfl,rfl,rfl,rfl,rfl,rfl,rfl,hX,hW⟩ ?_
     clear hX hW
     rintro m f w6 ⟨j,rfl,hj,hf0,hf1,hf8,hf9,hf49,hf50,hf51,hf11,hf56,hf57,hf58,hX,hW⟩
     rw [ui hf0,ui hf1,ui hf8,ui hf9,ui hf49,ui hf50,ui hf51,ui hf11,ui hf56,ui hf57,ui hf58]
     clear hf0 hf1 hf8 hf9 hf49 hf50 hf51 hf11 hf56 hf57 hf58
     by_cases hjl:j < r
     · skip
       obtain ⟨_,_,x1,y1,e,hx1,hy1,hv1⟩:=hru.at hjl
       cases e
       replace hx1:=cell_ext hX hx1
       replace hy1:=cell_ext hX hy1
       replace hv1:=hv1.ext hX
       have hbn:j < n:=by omega
       have hX:Ext w w6:=hX
       refine gg ?_
       have hK:Ext w6 w6:=Ext.refl _
       refine gg ?_
       refine R1_alloc (.inl rfl) z_Int ?_
       intro w_3 hB0_ hE_ hs_
       have h9:=Bx.zero (N:=1) true hB0_
       obtain ⟨g9,hg_⟩ : ∃ g,g = w6.heap.size:=⟨_,rfl⟩
       rw [← hg_] at h9 ⊢
       have hfr_g9:w.heap.size≤g9:=by have:=hX.size; omega
       have hfr_hK_g9:w6.heap.size≤g9:=by have:=hK.size; omega
       replace hv1:=hv1.ext hE_
       replace hK:=hK.trans hE_
       replace hX:=hX.trans hE_
       clear hB0_ hs_ hg_ hE_
       replace h9:=h9.un
       refine gg ?_
       refine gg ?_
       refine R1_storeBx (by first | exact .inl rfl | exact .inr ⟨rfl,fun _ h=>h.mono fun b _ e=>by omega⟩) rfl rfl h9 (⟨hv1,fun e=>by cases e⟩) ?_
       intro w_4 h9 hC_ hk_ hs_
       replace hv1:=hv1.kp hk_
       replace hK:=hC_.ext_of hK (fun b hb=>by omega)
       replace hX:=hC_.ext_of hX (fun b hb=>by omega)
       clear hC_ hk_ hs_
       refine gg ?_
       clear hx1 hy1
       refine gg ?_
       refine W_regD [(0,3),(1,3),(2,3),(3,0),(4,3),(5,0),(6,1),(7,3),(8,2)] mixed (by kernel_rfl) (fun w_5 hE_ _=>?_)
       replace hv1:=hv1.ext hE_
       replace hK:=hK.trans hE_
       replace h9:=h9.ext hE_
       replace hX:=hX.trans hE_
       clear hE_
       have hox:=(hW.ext hK).at han
       obtain ⟨h9_u,h9_v,h9_B,h9_V⟩:=id h9
       obtain ⟨h9_0,h9_1⟩:=blkP h9_B
       refine gg ?_
       refine gg ?_
       refine R1_call1 (normalize_ok _ _ _ N w_5 h9_V.1 (by omega)) ?_
       rintro _ w_6 ⟨hE_,a0,a1,rfl,hm⟩
       refine ⟨hE_,?_⟩
       replace hv1:=hv1.ext hE_
       replace hK:=hK.trans hE_
       replace h9:=h9.ext hE_
       replace hX:=hX.trans hE_
       clear hE_
       clear hox h9_0 h9_1
       have hrow:=(hW.ext hK).row i han
       have hgr:=hgs i han
       refine gg ?_
       refine R1_storeE (.inl rfl) rfl rfl hrow hbn (hm.ev true (bM i j hlt hjl)) ?_
       intro w9 hR9 hC9 hk9 hs9
       rw [← osM_1 (M:=M) (M2:=M2) hlt hjl] at hR9
       have hW9:=(hW.ext hK).up han hR9 hC9 hk9
       have hX9:=hC9.ext_of hX (fun b hb=>by omega)
       refine gg ?_
       refine ⟨_,?_,j + 1,rfl,by omega,rfl,rfl,rfl,rfl,rfl,rfl,rfl,rfl,rfl,rfl,rfl,hX9,hW9⟩
       omega
     · refine gg ?_
       obtain rfl:j = r:=by omega
       refine ⟨_,?_,i + 1,rfl,by omega,rfl,rfl,rfl,rfl,rfl,rfl,rfl,hX,hW.congr fun p q _ hq=>⟨Nat.le_refl _,upto_row (n:=n) (fun q h1 h2=>osM_r hlt h1) p q hq⟩⟩
       omega
   · refine gg ?_
     obtain rfl:i = r:=by omega
     exact ⟨rfl,rfl,rfl,rfl,hX,hW⟩
 clear hX hW
 rintro f w' ⟨hf0,hf1,hf8,hf9,hX,hW⟩
 rw [ui hf0,ui hf1,ui hf8,ui hf9]
 clear hf0 hf1 hf8 hf9
 refine W_seqM (fun f w'=>f 0 = .slice (some ad) r capa∧f 1 = .slice (some bd) r2 capb∧f 8 = .int .i64 ((n:Nat):Int)∧f 9 = .slice (some ⟨gO,0,none⟩) n n∧Ext w w'∧WMat w' gO gs n n true (fun _ _=>N) (upto (osM r M M2) (r + r2) 0)) ?_ ?_
 · refine gg ?_
   refine W_loop (fun m f w'=>∃ i,m = r2 - i∧i≤r2∧f 0 = .slice (some ad) r capa∧f 1 = .slice (some bd) r2 capb∧f 8 = .int .i64 ((n:Nat):Int)∧f 9 = .slice (some ⟨gO,0,none⟩) n n∧f 73 = .slice (some bd) r2 capb∧f 74 = .int .i64 ((r2:Nat):Int)∧f 75 = .int .i64 ((i:Nat):Int)∧Ext w w'∧WMat w' gO gs n n true (fun _ _=>N) (upto (osM r M M2) (r + i) 0))
    r2 ⟨0,rfl,Nat.zero_le _,rfl,rfl,rfl,rfl,rfl,rfl,rfl,hX,hW⟩ ?_
   clear hX hW
   rintro m f w3 ⟨i,rfl,hi,hf0,hf1,hf8,hf9,hf73,hf74,hf75,hX,hW⟩
   rw [ui hf0,ui hf1,ui hf8,ui hf9,ui hf73,ui hf74,ui hf75]
   clear hf0 hf1 hf8 hf9 hf73 hf74 hf75
   by_cases hlt:i < r2
   · skip
     obtain ⟨_,_,vr,e,hu,hru⟩:=hM2.at hlt
     cases e
     obtain ⟨ai,capi,_,_,rfl,_,_,_⟩:=hru.at (show 0 < r2 by omega)
     replace hu:=cell_ext hX hu
     have han:(r + i) < n:=by omega
     refine gg ?_
     clear hu
     refine W_loop (fun m f w'=>∃ j,m = r2 - j∧j≤r2∧f 0 = .slice (some ad) r capa∧f 1 = .slice (some bd) r2 capb∧f 8 = .int .i64 ((n:Nat):Int)∧f 9 = .slice (some ⟨gO,0,none⟩) n n∧f 73 = .slice (some bd) r2 capb∧f 74 = .int .i64 ((r2:Nat):Int)∧f 75 = .int .i64 ((i:Nat):Int)∧f 15 = .int .i64 ((i:Nat):Int)∧f 80 = .slice (some ai) r2 capi∧f 81 = .int .i64 ((r2:Nat):Int)∧f 82 = .int .i64 ((j:Nat):Int)∧Ext w w'∧WMat w' gO gs n n true (fun _ _=>N) (upto (osM r M M2) (r + i) (r + j)))
      r2 ⟨0,rfl,Nat.zero_le _,rfl,rfl,rfl,rfl,rfl,rfl,rfl,rfl,rfl,rfl,rfl,hX,hW.congr fun p q _ _=>⟨Nat.le_refl _,upto_start (fun q hq=>osM_l hq) p q⟩⟩ ?_
     clear hX hW
     rintro m f w6 ⟨j,rfl,hj,hf0,hf1,hf8,hf9,hf73,hf74,hf75,hf15,hf80,hf81,hf82,hX,hW⟩
     rw [ui hf0,ui hf1,ui hf8,ui hf9,ui hf73,ui hf74,ui hf75,ui hf15,ui hf80,ui hf81,ui hf82]
     clear hf0 hf1 hf8 hf9 hf73 hf74 hf75 hf15 hf80 hf81 hf82
     by_cases hjl:j < r2
     · skip
       obtain ⟨_,_,x1,y1,e,hx1,hy1,hv1⟩:=hru.at hjl
       cases e
       replace hx1:=cell_ext hX hx1
       replace hy1:=cell_ext hX hy1
       replace hv1:=hv1.ext hX
       have hbn:(r + j) < n:=by omega
       have hX:Ext w w6:=hX
       refine gg ?_
       have hK:Ext w6 w6:=Ext.refl _
       refine gg ?_
       refine R1_alloc (.inl rfl) z_Int ?_
       intro w_7 hB0_ hE_ hs_
       have h9:=Bx.zero (N:=1) true hB0_
       obtain ⟨g9,hg_⟩ : ∃ g,g = w6.heap.size:=⟨_,rfl⟩
       rw [← hg_] at h9 ⊢
       have hfr_g9:w.heap.size≤g9:=by have:=hX.size; omega
       have hfr_hK_g9:w6.heap.size≤g9:=by have:=hK.size; omega
       replace hv1:=hv1.ext hE_
       replace hK:=hK.trans hE_
       replace hX:=hX.trans hE_
       clear hB0_ hs_ hg_ hE_
       replace h9:=h9.un
       refine gg ?_
       refine gg ?_
       refine R1_storeBx (by first | exact .inl rfl | exact .inr ⟨rfl,fun _ h=>h.mono fun b _ e=>by omega⟩) rfl rfl h9 (⟨hv1,fun e=>by cases e⟩) ?_
       intro w_8 h9 hC_ hk_ hs_
       replace hv1:=hv1.kp hk_
       replace hK:=hC_.ext_of hK (fun b hb=>by omega)
       replace hX:=hC_.ext_of hX (fun b hb=>by omega)
       clear hC_ hk_ hs_
       refine gg ?_
       clear hx1 hy1
       refine gg ?_
       refine W_regD [(0,3),(1,3),(2,3),(3,3),(4,3),(5,3),(6,0),(7,3),(8,3),(9,3),(10,3),(11,0),(12,1),(13,3),(14,2)] mixed (by kernel_rfl) (fun w_9 hE_ _=>?_)
       replace hv1:=hv1.ext hE_
       replace hK:=hK.trans hE_
       replace h9:=h9.ext hE_
       replace hX:=hX.trans hE_
       clear hE_
       have hox:=(hW.ext hK).at han
       obtain ⟨h9_u,h9_v,h9_B,h9_V⟩:=id h9
       obtain ⟨h9_0,h9_1⟩:=blkP h9_B
       refine gg ?_
       refine gg ?_
       refine R1_call1 (normalize_ok _ _ _ N w_9 h9_V.1 (by omega)) ?_
       rintro _ w_10 ⟨hE_,a0,a1,rfl,hm⟩
       refine ⟨hE_,?_⟩
       replace hv1:=hv1.ext hE_
       replace hK:=hK.trans hE_
       replace h9:=h9.ext hE_
       replace hX:=hX.trans hE_
       clear hE_
       clear hox h9_0 h9_1
       have hrow:=(hW.ext hK).row (r + i) han
       have hgr:=hgs (r + i) han
       refine gg ?_
       refine R1_storeE (.inl rfl) rfl rfl hrow hbn (hm.ev true (bM2 i j hlt hjl)) ?_
       intro w9 hR9 hC9 hk9 hs9
       rw [← osM_2 (r:=r) (p:=i) (q:=j) (M:=M) (M2:=M2)] at hR9
       have hW9:=(hW.ext hK).up han hR9 hC9 hk9
       have hX9:=hC9.ext_of hX (fun b hb=>by omega)
       refine gg ?_
       refine ⟨_,?_,j + 1,rfl,by omega,rfl,rfl,rfl,rfl,rfl,rfl,rfl,rfl,rfl,rfl,rfl,hX9,hW9⟩
       omega
     · refine gg ?_
       obtain rfl:j = r2:=by omega
       refine ⟨_,?_,i + 1,rfl,by omega,rfl,rfl,rfl,rfl,rfl,rfl,rfl,hX,hW.congr fun p q _ hq=>⟨Nat.le_refl _,upto_row (n:=n) (fun q h1 h2=>absurd h2 (by omega)) p q hq⟩⟩
       omega
   · refine gg ?_
     obtain rfl:i = r2:=by omega
     exact ⟨rfl,rfl,rfl,rfl,hX,hW⟩
 clear hX hW
 rintro f w' ⟨hf0,hf1,hf8,hf9,hX,hW⟩
 rw [ui hf0,ui hf1,ui hf8,ui hf9]
 clear hf0 hf1 hf8 hf9
 refine gg ?_
 exact ret2 (v:=.slice _ _ _) (v':=.int _ _) rfl rfl rfl ⟨hX,.inr ⟨e0,gO,gs,by rw [hn],(hW.congr fun p q hp _=>⟨Nat.le_refl _,by simp only [upto]; rw [if_pos (by omega)]⟩).o⟩⟩
set_option maxHeartbeats 32000000 in
theorem rosum_ok (va vb:Value) (r r2 N:Nat) (len len2:Nat→Nat) (M M2:Nat→Nat→Int) (w:World) (ha:MatE (EI N) w va r len M) (hb:MatE (EI N) w vb r2 len2 M2) (hN1:1≤N) (hN:N < 1048576) :
 Meets Tryz.prog 53 #[va,vb] w (RMe w (osE r len M r2 len2 M2) (r + r2) (osM r M M2)):=by
 refine fn_W (n:=105) Tryz.func53 rfl rfl (by kernel_rfl) (by simp) ?_
 have ha0:=ha
 have hb0:=hb
 have hX:Ext w w:=Ext.refl w
 refine gg ?_
 refine W_seq ?_
 refine gg ?_
 refine gg ?_
 refine R1_call2 (rvalidate_ok va r N len M w ha hN1 hN) ?_
 rintro _ w_1 ⟨hE_,rfl⟩
 replace ha:=ha.ext hE_
 replace hb:=hb.ext hE_
 replace hX:=hX.trans hE_
 clear hE_
 have h5:=valE_le r len M
 have h6:=valE_le r2 len2 M2
 by_cases h0:valE r len M = 0
 rotate_left
 · have e0:osE r len M r2 len2 M2 = valE r len M:=by unfold osE; rw [if_neg h0]
   refine gg ?_
   exact ret2 (v:=.slice _ _ _) (v':=.int _ _) rfl rfl rfl ⟨hX,.inl ⟨by rw [e0]; exact h0,by rw [e0]⟩⟩
 refine gg ?_
 refine W_seq ?_
 refine gg ?_
 refine gg ?_
 refine R1_call2 (rvalidate_ok vb r2 N len2 M2 w_1 hb hN1 hN) ?_
 rintro _ w_2 ⟨hE_,rfl⟩
 replace ha:=ha.ext hE_
 replace hb:=hb.ext hE_
 replace hX:=hX.trans hE_
 clear hE_
 by_cases h1:valE r2 len2 M2 = 0
 rotate_left
 · have e0:osE r len M r2 len2 M2 = valE r2 len2 M2:=by unfold osE; rw [if_pos h0,if_neg h1]
   refine gg ?_
   exact ret2 (v:=.slice _ _ _) (v':=.int _ _) rfl rfl rfl ⟨hX,.inl ⟨by rw [e0]; exact h1,by rw [e0]⟩⟩
 obtain ⟨hok,h8,_⟩:=valE_zero.1 h0
 obtain ⟨hr1,hr2,hlen⟩:=okS_iff.1 hok
 obtain ⟨hok',h8',_⟩:=valE_zero.1 h1
 obtain ⟨hr1',hr2',hlen'⟩:=okS_iff.1 hok'
 have hM:=ha0.sq hlen
 have hM2:=hb0.sq hlen'
 have bM:∀ i j,i < r→j < r→Bd N (M i j):=fun i j hi hj=>hM.bd hi hj
 have bM2:∀ i j,i < r2→j < r2→Bd N (M2 i j):=fun i j hi hj=>hM2.bd hi hj
 obtain ⟨ad,capa,_,rfl,_,_⟩:=hM.at (show 0 < r by omega)
 obtain ⟨bd,capb,_,rfl,_,_⟩:=hM2.at (show 0 < r2 by omega)
 refine gg ?_
 refine W_seq ?_
 by_cases h9:r + r2≤8
 rotate_left
 · have e0:osE r len M r2 len2 M2 = 7:=by unfold osE; rw [if_pos h0,if_pos h1,if_neg (by omega)]
   refine gg ?_
   exact ret2 (v:=.slice _ _ _) (v':=.int _ _) rfl rfl rfl ⟨hX,.inl ⟨by rw [e0]; decide,by rw [e0]⟩⟩
 have e0:osE r len M r2 len2 M2 = 0:=by unfold osE; rw [if_pos h0,if_pos h1,if_pos (by omega)]
 refine gg ?_
 have hsz:=hX.size
 refine gg ?_
 refine R1_call2 (zero_ok (r + r2) (r + r2) w_2 (by omega) (by omega)) ?_
 rintro _ w_3 ⟨hE_,gO,gs,rfl,hgO,hgs',hO⟩
 replace ha:=ha.ext hE_
 replace hb:=hb.ext hE_
 replace hX:=hX.trans hE_
 clear hE_
 obtain ⟨n,hn⟩ : ∃ n,n = r + r2:=⟨_,rfl⟩
 rw [← hn] at hO hgs' ⊢
 have hgs:∀ i,i < n→w.heap.size≤gs i:=fun i hi=>by have:=hgs' i hi; omega
 have hW:WMat w_3 gO gs n n true (fun _ _=>N) (fun _ _=>0):=hO.wm true fun _ _ _ _=>Bd.zero _
 clear hO hgs'
 refine gg ?_
 refine W_seqM (fun f w'=>f 0 = .slice (some ad) r capa∧f 1 = .slice (some bd) r2 capb∧f 8 = .slice (some ⟨gO,0,none⟩) n n∧Ext w w'∧WMat w' gO gs n n true (fun _ _=>N) (upto (osM r M M2) r 0)) ?_ ?_
 · refine gg ?_
   refine W_loop (fun m f w'=>∃ i,m = r - i∧i≤r∧f 0 = .slice (some ad) r capa∧f 1 = .slice (some bd) r2 capb∧f 8 = .slice (some ⟨gO,0,none⟩) n n∧f 41 = .int .i64 ((r:Nat):Int)∧f 42 = .int .i64 ((i:Nat):Int)∧Ext w w'∧WMat w' gO gs n n true (fun _ _=>N) (upto (osM r M M2) i 0))
    r ⟨0,rfl,Nat.zero_le _,rfl,rfl,rfl,rfl,rfl,hX,hW.congr fun p q _ _=>⟨Nat.le_refl _,by simp only [upto]; rw [if_neg (by omega)]⟩⟩ ?_
   clear hX hW
   rintro m f w3 ⟨i,rfl,hi,hf0,hf1,hf8,hf41,hf42,hX,hW⟩
   rw [ui hf0,ui hf1,ui hf8,ui hf41,ui hf42]
   clear hf0 hf1 hf8 hf41 hf42
   by_cases hlt:i < r
   · skip
     obtain ⟨_,_,vr,e,hu,hru⟩:=hM.at hlt
     cases e
     obtain ⟨ai,capi,_,_,rfl,_,_,_⟩:=hru.at (show 0 < r by omega)
     have hu':=cell_ext hX hu
     have han:i < n:=by omega
     refine gg ?_
     clear hu'
     refine W_loop (fun m f w'=>∃ j,m = r - j∧j≤r∧f 0 = .slice (some ad) r capa∧f 1 = .slice (some bd) r2 capb∧f 8 = .slice (some ⟨gO,0,none⟩) n n∧f 41 = .int .i64 ((r:Nat):Int)∧f 42 = .int .i64 ((i:Nat):Int)∧f 9 = .int .i64 ((i:Nat):Int)∧f 49 = .int .i64 ((r:Nat):Int)∧f 50 = .int .i64 ((j:Nat):Int)∧Ext w w'∧WMat w' gO gs n n true (fun _ _=>N) (upto (osM r M M2) i j))
      r ⟨0,rfl,Nat.zero_le _,rfl,rfl,rfl,rfl,rfl,rfl,rfl,rfl,hX,hW⟩ ?_
     clear hX hW
     rintro m f w6 ⟨j,rfl,hj,hf0,hf1,hf8,hf41,hf42,hf9,hf49,hf50,hX,hW⟩
     rw [ui hf0,ui hf1,ui hf8,ui hf41,ui hf42,ui hf9,ui hf49,ui hf50]
     clear hf0 hf1 hf8 hf41 hf42 hf9 hf49 hf50
     by_cases hjl:j < r
     · skip
       obtain ⟨_,_,x1,y1,e,hx1,hy1,hv1⟩:=hru.at hjl
       cases e
       have hbn:j < n:=by omega
       have hX:Ext w w6:=hX
       refine gg ?_
       refine gg ?_
       refine W_regD [(0,3),(1,3),(2,3),(3,0),(4,3),(5,3),(6,3),(7,3),(8,0),(9,3),(10,3),(11,0),(12,1),(13,3),(14,2)] mixed (by kernel_rfl) (fun w_4 hE_ _=>?_)
       replace hW:=hW.ext hE_
       replace hX:=hX.trans hE_
       clear hE_
       have hu':=cell_ext hX hu
       replace hx1:=cell_ext hX hx1
       replace hy1:=cell_ext hX hy1
       replace hv1:=hv1.ext hX
       have hox:=hW.at han
       refine gg ?_
       refine gg ?_
       refine R1_call1 (rnormalize_ok _ _ _ N w_4 hv1 (by omega)) ?_
       rintro _ w_5 ⟨hE_,a0,a1,rfl,hm⟩
       refine ⟨hE_,?_⟩
       replace hW:=hW.ext hE_
       replace hX:=hX.trans hE_
       clear hE_
       clear hox hu' hx1 hy1
       have hrow:=hW.row i han
       have hgr:=hgs i han
       refine gg ?_
       refine R1_storeE (.inl rfl) rfl rfl hrow hbn (hm.ev true (bM i j hlt hjl)) ?_
       intro w9 hR9 hC9 hk9 hs9
       rw [← osM_1 (M:=M) (M2:=M2) hlt hjl] at hR9
       have hW9:=hW.up han hR9 hC9 hk9
       have hX9:=hC9.ext_of hX (fun b hb=>by omega)
       refine gg ?_
       refine ⟨_,?_,j + 1,rfl,by omega,rfl,rfl,rfl,rfl,rfl,rfl,rfl,rfl,hX9,hW9⟩
       omega
     · refine gg ?_
       obtain rfl:j = r:=by omega
       refine ⟨_,?_,i + 1,rfl,by omega,rfl,rfl,rfl,rfl,rfl,hX,hW.congr fun p q _ hq=>⟨Nat.le_refl _,upto_row (n:=n) (fun q h1 h2=>osM_r hlt h1) p q hq⟩⟩
       omega
   · refine gg ?_
     obtain rfl:i = r:=by omega
     exact ⟨rfl,rfl,rfl,hX,hW⟩
 clear hX hW
 rintro f w' ⟨hf0,hf1,hf8,hX,hW⟩
 rw [ui hf0,ui hf1,ui hf8]
 clear hf0 hf1 hf8
 refine W_seqM (fun f w'=>f 0 = .slice (some ad) r capa∧f 1 = .slice (some bd) r2 capb∧f 8 = .slice (some ⟨gO,0,none⟩) n n∧Ext w w'∧WMat w' gO gs n n true (fun _ _=>N) (upto (osM r M M2) (r + r2) 0)) ?_ ?_
 · refine gg ?_
   refine W_loop (fun m f w'=>∃ i,m = r2 - i∧i≤r2∧f 0 = .slice (some ad) r capa∧f 1 = .slice (some bd) r2 capb∧f 8 = .slice (some ⟨gO,0,none⟩) n n∧f 70 = .int .i64 ((r2:Nat):Int)∧f 71 = .int .i64 ((i:Nat):Int)∧Ext w w'∧WMat w' gO gs n n true (fun _ _=>N) (upto (osM r M M2) (r + i) 0))
    r2 ⟨0,rfl,Nat.zero_le _,rfl,rfl,rfl,rfl,rfl,hX,hW⟩ ?_
   clear hX hW
   rintro m f w3 ⟨i,rfl,hi,hf0,hf1,hf8,hf70,hf71,hX,hW⟩
   rw [ui hf0,ui hf1,ui hf8,ui hf70,ui hf71]
   clear hf0 hf1 hf8 hf70 hf71
   by_cases hlt:i < r2
   · skip
     obtain ⟨_,_,vr,e,hu,hru⟩:=hM2.at hlt
     cases e
     obtain ⟨ai,capi,_,_,rfl,_,_,_⟩:=hru.at (show 0 < r2 by omega)
     have hu':=cell_ext hX hu
     have han:(r + i) < n:=by omega
     refine gg ?_
     clear hu'
     refine W_loop (fun m f w'=>∃ j,m = r2 - j∧j≤r2∧f 0 = .slice (some ad) r capa∧f 1 = .slice (some bd) r2 capb∧f 8 = .slice (some ⟨gO,0,none⟩) n n∧f 70 = .int .i64 ((r2:Nat):Int)∧f 71 = .int .i64 ((i:Nat):Int)∧f 11 = .int .i64 ((i:Nat):Int)∧f 78 = .int .i64 ((r2:Nat):Int)∧f 79 = .int .i64 ((j:Nat):Int)∧Ext w w'∧WMat w' gO gs n n true (fun _ _=>N) (upto (osM r M M2) (r + i) (r + j)))
      r2 ⟨0,rfl,Nat.zero_le _,rfl,rfl,rfl,rfl,rfl,rfl,rfl,rfl,hX,hW.congr fun p q _ _=>⟨Nat.le_refl _,upto_start (fun q hq=>osM_l hq) p q⟩⟩ ?_
     clear hX hW
     rintro m f w6 ⟨j,rfl,hj,hf0,hf1,hf8,hf70,hf71,hf11,hf78,hf79,hX,hW⟩
     rw [ui hf0,ui hf1,ui hf8,ui hf70,ui hf71,ui hf11,ui hf78,ui hf79]
     clear hf0 hf1 hf8 hf70 hf71 hf11 hf78 hf79
     by_cases hjl:j < r2
     · skip
       obtain ⟨_,_,x1,y1,e,hx1,hy1,hv1⟩:=hru.at hjl
       cases e
       have hbn:(r + j) < n:=by omega
       have hX:Ext w w6:=hX
       refine gg ?_
       refine gg ?_
       refine W_regD [(0,3),(1,3),(2,3),(3,3),(4,3),(5,3),(6,0),(7,3),(8,3),(9,3),(10,3),(11,3),(12,3),(13,3),(14,0),(15,3),(16,3),(17,0),(18,1),(19,3),(20,2)] mixed (by kernel_rfl) (fun w_6 hE_ _=>?_)
       replace hW:=hW.ext hE_
       replace hX:=hX.trans hE_
       clear hE_
       have hu':=cell_ext hX hu
       replace hx1:=cell_ext hX hx1
       replace hy1:=cell_ext hX hy1
       replace hv1:=hv1.ext hX
       have hox:=hW.at han
       refine gg ?_
       refine gg ?_
       refine R1_call1 (rnormalize_ok _ _ _ N w_6 hv1 (by omega)) ?_
       rintro _ w_7 ⟨hE_,a0,a1,rfl,hm⟩
       refine ⟨hE_,?_⟩
       replace hW:=hW.ext hE_
       replace hX:=hX.trans hE_
       clear hE_
       clear hox hu' hx1 hy1
       have hrow:=hW.row (r + i) han
       have hgr:=hgs (r + i) han
       refine gg ?_
       refine R1_storeE (.inl rfl) rfl rfl hrow hbn (hm.ev true (bM2 i j hlt hjl)) ?_
       intro w9 hR9 hC9 hk9 hs9
       rw [← osM_2 (r:=r) (p:=i) (q:=j) (M:=M) (M2:=M2)] at hR9
       have hW9:=hW.up han hR9 hC9 hk9
       have hX9:=hC9.ext_of hX (fun b hb=>by omega)
       refine gg ?_
       refine ⟨_,?_,j + 1,rfl,by omega,rfl,rfl,rfl,rfl,rfl,rfl,rfl,rfl,hX9,hW9⟩
       omega
     · refine gg ?_
       obtain rfl:j = r2:=by omega
       refine ⟨_,?_,i + 1,rfl,by omega,rfl,rfl,rfl,rfl,rfl,hX,hW.congr fun p q _ hq=>⟨Nat.le_refl _,upto_row (n:=n) (fun q h1 h2=>absurd h2 (by omega)) p q hq⟩⟩
       omega
   · refine gg ?_
     obtain rfl:i = r2:=by omega
     exact ⟨rfl,rfl,rfl,hX,hW⟩
 clear hX hW
 rintro f w' ⟨hf0,hf1,hf8,hX,hW⟩
 rw [ui hf0,ui hf1,ui hf8]
 clear hf0 hf1 hf8
 refine gg ?_
 exact ret2 (v:=.slice _ _ _) (v':=.int _ _) rfl rfl rfl ⟨hX,.inr ⟨e0,gO,gs,by rw [hn],(hW.congr fun p q hp _=>⟨Nat.le_refl _,by simp only [upto]; rw [if_pos (by omega)]⟩).o⟩⟩
theorem osumR_ok (va vb:Value) (r r2 N:Nat) (len len2:Nat→Nat) (M M2:Nat→Nat→Int) (w:World) (ha:MatE (EI N) w va r len M) (hb:MatE (EI N) w vb r2 len2 M2) (hN1:1≤N) (hN:N < 1048576) :
 Meets Tryz.prog 52 #[va,vb] w fun v w'=>Ext w w'∧∃ a m cp,v = .tuple #[.slice a m cp,.int .i64 ((osE r len M r2 len2 M2:Nat):Int)]∧MatE (EC N) w' (.slice a m cp) (if osE r len M r2 len2 M2 = 0 then r + r2 else 0) (fun _=>r + r2) (osM r M M2) :=
 (osum_ok va vb r r2 N len len2 M M2 w ha hb hN1 hN).mono fun _ _ h=>h.rd (os_bd ha hb)
theorem rosumR_ok (va vb:Value) (r r2 N:Nat) (len len2:Nat→Nat) (M M2:Nat→Nat→Int) (w:World) (ha:MatE (EI N) w va r len M) (hb:MatE (EI N) w vb r2 len2 M2) (hN1:1≤N) (hN:N < 1048576) :
 Meets Tryz.prog 53 #[va,vb] w fun v w'=>Ext w w'∧∃ a m cp,v = .tuple #[.slice a m cp,.int .i64 ((osE r len M r2 len2 M2:Nat):Int)]∧MatE (EC N) w' (.slice a m cp) (if osE r len M r2 len2 M2 = 0 then r + r2 else 0) (fun _=>r + r2) (osM r M M2) :=
 (rosum_ok va vb r r2 N len len2 M M2 w ha hb hN1 hN).mono fun _ _ h=>h.rd (os_bd ha hb)
end Go.Proofs.YtncbjgblcofddaaGreatDoor
