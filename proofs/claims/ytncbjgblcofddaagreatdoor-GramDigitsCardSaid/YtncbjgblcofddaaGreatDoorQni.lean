/- Joined: Lat, Lau, Opl, Lav. -/
import Derived.Test.YtncbjgblcofddaaGreatDoorQnh
import Derived.Test.YtncbjgblcofddaaGreatDoorQo
import Derived.Test.YtncbjgblcofddaaGreatDoorQs
import Derived.Lib.SmallJoins
/- quadformmake: diagonal,chain,general,good. -/
namespace Go.Proofs.YtncbjgblcofddaaGreatDoor
open Go Go.Eng Go.Num Go.Proofs
open Go.Det (gr bm det Sy PM Red)
def dgM (D:Nat→Int):Nat→Nat→Int:=fun i j=>if i = j then D i else 0
structure ZPart (w:World) (gO:Nat) (gs:Nat→Nat) (r i c:Nat) (M:Nat→Nat→Int):Prop where
 outer:Outer 85 w gO r i c gs
 row:∀ t,t < i→RowW w (gs t) c (M t)
 gt:∀ t,t < i→gO < gs t
 inj:∀ t t',t < i→t' < i→gs t = gs t'→t = t'
theorem ZPart.full {w:World} {gO r c:Nat} {gs:Nat→Nat} {M:Nat→Nat→Int} (h:ZPart w gO gs r r c M):ZMat w gO gs r c M :=
 ⟨h.outer.full,h.row,fun t ht=>by have:=h.gt t ht; omega,h.inj⟩
theorem ZPart.ext {w w':World} {gO r i c:Nat} {gs:Nat→Nat} {M:Nat→Nat→Int} (h:ZPart w gO gs r i c M) (hE:Ext w w'):ZPart w' gO gs r i c M :=
 ⟨h.outer.ext hE,fun t ht=>Blk.ext (h.row t ht) hE,h.gt,h.inj⟩
theorem ZPart.ch {w w':World} {gO r i c:Nat} {gs:Nat→Nat} {M:Nat→Nat→Int} {MM:Nat→Prop} (h:ZPart w gO gs r i c M) (hC:Ch MM w w') (h1:¬ MM gO) (h2:∀ t,t < i→¬ MM (gs t)):ZPart w' gO gs r i c M :=
 ⟨h.outer.kp hC h1,fun t ht=>Blk.ch (h.row t ht) hC (h2 t ht),h.gt,h.inj⟩
theorem ZPart.put {w w':World} {gO r i c t j:Nat} {gs:Nat→Nat} {M:Nat→Nat→Int} {z:Int} (h:ZPart w gO gs r i c M) (ht:t < i) (hB:RowW w' (gs t) c (setZ (M t) j z)) (hC:Ch (fun b=>b = gs t) w w'):ZPart w' gO gs r i c (set2 M t j z):=by
 refine ⟨h.outer.kp hC (by have:=h.gt t ht; omega),fun q hq=>?_,h.gt,h.inj⟩
 by_cases e:q = t
 · subst e
   rw [set2_row]; exact hB
 · rw [set2_ne M j z e]
   exact Blk.ch (h.row q hq) hC (fun e2=>e (h.inj q t hq ht e2))
theorem ZPart.congr {w:World} {gO r i c:Nat} {gs:Nat→Nat} {M M':Nat→Nat→Int} (h:ZPart w gO gs r i c M) (e:∀ t j,t < i→j < c→M t j = M' t j):ZPart w gO gs r i c M' :=
 ⟨h.outer,fun t ht=>(h.row t ht).congr fun j hj=>e t j ht hj,h.gt,h.inj⟩
theorem ZPart.more {w w1 w2:World} {gO r i c g:Nat} {gs:Nat→Nat} {M:Nat→Nat→Int} (h:ZPart w gO gs r i c M) (hE:Ext w w1) (hg:w.heap.size≤g) (hr:RowW w1 g c (fun _=>0)) (hC:Ch (fun b=>b = gO) w1 w2)
 (hO:Outer 85 w2 gO r (i + 1) c (setN gs i g)):ZPart w2 gO (setN gs i g) r (i + 1) c (fun t=>if t = i then fun _=>0 else M t):=by
 have hl:=h.outer.lt
 have hlr:∀ t,t < i→gs t < w.heap.size:=fun t ht=>Blk.lt (h.row t ht)
 refine ⟨hO,fun t ht=>?_,fun t ht=>?_,fun t t' ht ht' e=>?_⟩
 · by_cases e:t = i
   · subst e
     simp only [setN,if_true]
     exact Blk.ch hr hC (by omega)
   · simp only [setN,if_neg e]
     exact Blk.ch (Blk.ext (h.row t (by omega)) hE) hC (by have:=h.gt t (by omega); omega)
 · by_cases e:t = i
   · simp only [setN,if_pos e]; omega
   · simp only [setN,if_neg e]; exact h.gt t (by omega)
 · simp only [setN] at e
   split at e <;> split at e
   · omega
   · have:=hlr t' (by omega); omega
   · have:=hlr t (by omega); omega
   · exact h.inj t t' (by omega) (by omega) e
theorem ZPart.at {w:World} {gO r i c t:Nat} {gs:Nat→Nat} {M:Nat→Nat→Int} (h:ZPart w gO gs r i c M) (ht:t < i) (hr:t < r):w.cell? ⟨gO,0 + t * 1,none⟩ = some (.slice (some ⟨gs t,0,none⟩) c c):=h.outer.at ht hr
set_option maxHeartbeats 16000000 in
theorem diagonal_ok (g:Nat) (A:Option Addr) (n c k m most:Nat) (ns:Nat→Int) (w0 w:World) (hE0:Ext w0 w) (hN:Nums w0 A n ns) (hg:w0.heap.size≤g) (hB:TapeB w g A n c k) (_hm1:1≤m) (hm:m≤16) (hmo:0 < most) (hmo2:most≤100) :
 Meets Tryz.prog 127 #[.pointer (some ⟨g,0,none⟩),.int .i64 ((m:Nat):Int),.int .i64 ((most:Nat):Int)] w fun v w'=>∃ k' gO gs D,v = .slice (some ⟨gO,0,none⟩) m m∧w.heap.size≤gO∧(∀ i,i < m→gO < gs i)∧ZMat w' gO gs m m (dgM D)∧(∀ i,i < m→1≤D i∧D i≤most)∧TapeB w' g A n c k'∧Ext w0 w':=by
 refine fn_W (n:=33) Tryz.func127 rfl rfl (by kernel_rfl) (by simp) ?_
 have hgl:g < w.heap.size:=Blk.lt hB
 refine gh ?_
 refine R1_make sl_si64 (.inl rfl) rfl rfl (Nat.le_refl _) (by omega) (by omega) ?_
 intro w1 hB1 hE1 hs1
 obtain ⟨gO,hgO⟩ : ∃ g,g = w.heap.size:=⟨_,rfl⟩
 rw [← hgO] at hB1 ⊢
 have hO1:Outer 85 w1 gO m 0 m (fun _=>0):=outer_made hB1
 have hP1:ZPart w1 gO (fun _=>0) m 0 m (dgM fun _=>0):=⟨hO1,fun t ht=>absurd ht (by omega),fun t ht=>absurd ht (by omega),fun t t' ht=>absurd ht (by omega)⟩
 clear hB1 hO1
 have hE01:=hE0.trans hE1
 have hB1:TapeB w1 g A n c k:=Blk.ext hB hE1
 refine gh ?_
 refine W_seqM (fun f w'=>∃ k' gs D,f 7 = .slice (some ⟨gO,0,none⟩) m m∧ZPart w' gO gs m m m (dgM D)∧(∀ i,i < m→1≤D i∧D i≤most)∧TapeB w' g A n c k'∧Ext w0 w') ?_ ?_
 · refine gh ?_
   refine W_loop (fun q f w'=>∃ i k' gs D,q = m - i∧i≤m∧f 0 = .pointer (some ⟨g,0,none⟩)∧f 1 = .int .i64 ((m:Nat):Int)∧f 2 = .int .i64 ((most:Nat):Int)∧f 7 = .slice (some ⟨gO,0,none⟩) m m∧f 12 = .int .i64 ((m:Nat):Int)∧f 13 = .int .i64 ((i:Nat):Int)∧ZPart w' gO gs m i m (dgM D)∧(∀ t,t < i→1≤D t∧D t≤most)∧TapeB w' g A n c k'∧Ext w0 w')
    m ⟨0,k,fun _=>0,fun _=>0,rfl,Nat.zero_le _,rfl,rfl,rfl,rfl,rfl,rfl,hP1,fun t ht=>absurd ht (by omega),hB1,hE01⟩ ?_
   clear hP1 hE01 hB1 hB hE1 hs1 w1 hE0
   rintro q f w1 ⟨i,k',gs,D,rfl,hi,hf0,hf1,hf2,hf7,hf12,hf13,hP,hD,hB,hE0⟩
   rw [ui hf0,ui hf1,ui hf2,ui hf7,ui hf12,ui hf13]
   clear hf0 hf1 hf2 hf7 hf12 hf13
   by_cases hlt:i < m
   · have hOl:=hP.outer.lt
     have hBl:g < w1.heap.size:=Blk.lt hB
     refine gh ?_
     refine R1_make sl_i64 (.inl rfl) rfl rfl (Nat.le_refl _) (by omega) (by omega) ?_
     intro w2 hB2 hE2 hs2
     have hr2:=rowW_made hB2
     obtain ⟨gr,hgr⟩ : ∃ g,g = w1.heap.size:=⟨_,rfl⟩
     rw [← hgr] at hr2 ⊢
     clear hB2
     refine gh ?_
     refine R1_storeRow (one_of rfl) (.inl rfl) rfl rfl (hP.outer.ext hE2) hlt ?_
     intro w3 ⟨_,hO3⟩ hC3 hk3 hs3
     have hP3:=hP.more hE2 (by omega) hr2 hC3 (hO3 rfl)
     have hE3:Ext w0 w3:=hC3.ext_of (hE0.trans hE2) (fun b hb=>by have:=hE0.size; omega)
     have hB3:TapeB w3 g A n c k':=Blk.ch (Blk.ext hB hE2) hC3 (by omega)
     clear hO3 hC3 hk3 hr2 hE2 hs2 hP hB hE0
     refine gh ?_
     refine W_regDM (fun b=>b = g) [(0,3),(1,3),(2,3),(3,0),(4,3),(5,3),(6,3),(7,1),(8,3),(9,3),(10,2)] mixed (by kernel_rfl) (fun w4 hE4 _=>?_)
     have hx4:=(hP3.ext hE4).at (t:=i) (by omega) hlt
     rw [show setN gs i gr i = gr by simp [setN]] at hx4
     refine gh ?_
     refine R1_load1M (by decide) (one_of rfl) rfl hx4 (by show ¬ gO = g; omega) ?_
     refine gh ?_
     refine R1_callS (below_ok g A n c k' most ns w0 w4 (hE3.trans hE4) hN hg (hB3.ext hE4) hmo (by omega)) ?_
     rintro _ w5 ⟨⟨b,rfl,hbm⟩,hB5,hC5,hk5⟩
     refine ⟨hC5,?_⟩
     have hP5:=(hP3.ext hE4).ch hC5 (by omega) (fun t ht=>by have:=(hP3.gt t ht); by_cases e:t = i; (simp only [setN,if_pos e]; omega); (simp only [setN,if_neg e] at this ⊢; omega))
     have hE5:Ext w0 w5:=hC5.ext_of (hE3.trans hE4) (fun b hb=>by omega)
     have hrow:=hP5.row i (by omega)
     rw [show setN gs i gr i = gr by simp [setN]] at hrow
     refine gh ?_
     refine R1_storeI (one_of rfl) (.inl rfl) rfl rfl hrow (by rw [arr_size]; omega) ?_
     intro w6 hB6 hC6 hs6
     have hP6:=hP5.put (t:=i) (by omega) (by rw [show setN gs i gr i = gr by simp [setN]]; exact RowW.set hB6) (by rw [show setN gs i gr i = gr by simp [setN]]; exact hC6)
     refine gh ?_
     refine ⟨_,?_,i + 1,k' + 1,setN gs i gr,fun t=>if t = i then (((OfNat.ofNat 1 + b:Nat)):Int) else D t,rfl,by omega,rfl,rfl,rfl,rfl,rfl,rfl,hP6.congr fun t j ht hj=>?_,fun t ht=>?_,Blk.ch hB5 hC6 (by omega),hC6.ext_of hE5 (fun b hb=>by have:=hE5.size; omega)⟩
     · omega
     · unfold set2 dgM
       by_cases e:t = i
       · subst e
         by_cases e2:j = t
         · rw [if_pos ⟨rfl,e2⟩,if_pos e2.symm]
           show _ = if t = t then _ else _
           rw [if_pos rfl]
         · rw [if_neg (fun h=>e2 h.2),if_neg (Ne.symm e2)]
           show (if t = t then (fun _=>(0:Int)) else _) j = 0
           rw [if_pos rfl]
       · rw [if_neg (fun h=>e h.1)]
         show (if t = i then (fun _=>(0:Int)) else fun j=>if t = j then D t else 0) j = if t = j then (if t = i then _ else D t) else 0
         rw [if_neg e,if_neg e]
     · dsimp only
       by_cases e:t = i
       · rw [if_pos e]
         have:(OfNat.ofNat 1 + b:Nat) = 1 + b:=rfl
         omega
       · rw [if_neg e]; exact hD t (by omega)
   · refine gh ?_
     obtain rfl:i = m:=by omega
     exact ⟨k',gs,D,rfl,hP,hD,hB,hE0⟩
 rintro f w2 ⟨k',gs,D,hf7,hP,hD,hB2,hE2⟩
 rw [ui hf7]
 clear hf7
 refine gh ?_
 exact ret1 (v:=.slice _ _ _) rfl rfl ⟨k',gO,gs,D,rfl,by omega,hP.gt,hP.full,hD,hB2,hE2⟩
set_option maxHeartbeats 8000000 in
theorem good_ok (v:Value) (n:Nat) (M:Nat→Nat→Int) (w:World) (h:MatZ w v n (fun _=>n) M) (hn1:1≤n) (hn:n≤16) :
 Meets Tryz.prog 128 #[v] w (REq w (valE n (fun _=>n) M = 0∧det n M≤10000)):=by
 refine fn_W (n:=16) Tryz.func128 rfl rfl (by kernel_rfl) (by simp) ?_
 have hoM:okM n (fun _=>n) = true:=okM_iff.2 ⟨⟨hn1,hn,hn1,hn⟩,fun _ _=>rfl⟩
 have bM:∀ i j,i < n→j < n→Bd 2 (M i j):=fun i j hi hj=>by
  have:=h.rng hi (j:=j) hj
  exact zbd this.1 this.2
 have hb2:=det_bdL (show 1≤2 by decide) (Nat.le_refl n) hn bM
 have hNb:=Nb_big (show 2 < 1048576 by decide) (Nat.le_refl 16)
 have hK1:1≤Nb 2 16:=by decide
 have hb1:Bd (Nb 2 16) 10000:=(show Bd 1 10000 by unfold Bd B; decide).mono hK1
 have hX:Ext w w:=Ext.refl w
 refine gh ?_
 refine R1_call2 (rof_ok v n (fun _=>n) M w h) ?_
 intro u w1 hu
 obtain ⟨hE1,gI,gsI,rfl,_,_,hO⟩:=hu.get hoM
 clear hu
 have hA:=hO.rd bM (Nat.le_refl _) (by omega) (by omega)
 replace hX:=hX.trans hE1
 refine gh ?_
 refine gh ?_
 refine R1_call2 (rvalidate_ok _ n 2 (fun _=>n) M w1 hA (by decide) (by decide)) ?_
 rintro _ w_1 ⟨hE_,rfl⟩
 replace hA:=hA.ext hE_
 replace hX:=hX.trans hE_
 clear hE_
 have h5:=valE_le n (fun _=>n) M
 by_cases h0:valE n (fun _=>n) M = 0
 rotate_left
 · refine gh ?_
   exact ret1 (v:=.bool _) rfl rfl ⟨hX,false,rfl,(fun h=>by cases h),fun h=>absurd h.1 h0⟩
 refine gh ?_
 refine gh ?_
 refine R1_call2 (rdet_ok _ n 2 M w_1 hA hn (by decide) (by decide)) ?_
 rintro _ w_2 ⟨hE_,x,y,rfl,h1⟩
 replace hA:=hA.ext hE_
 replace hX:=hX.trans hE_
 clear hE_
 rw [detB_det] at h1
 refine gh ?_
 refine R1_call2 (rsmall_ok 10000 w_2 (by decide) (by decide)) ?_
 rintro _ w_3 ⟨hE_,x0,x1,rfl,h2⟩
 replace hA:=hA.ext hE_
 replace h1:=h1.ext hE_
 replace hX:=hX.trans hE_
 clear hE_
 refine gh ?_
 refine R1_call2 (rcmpI_ok _ _ _ _ _ _ (Nb 2 16) w_3 (h1.iv hb2) (h2.iv hb1) (by omega)) ?_
 rintro _ w_4 ⟨hE_,rfl⟩
 replace hA:=hA.ext hE_
 replace h1:=h1.ext hE_
 replace h2:=h2.ext hE_
 replace hX:=hX.trans hE_
 clear hE_
 refine gh ?_
 refine ret1 (v:=.bool _) rfl rfl ⟨hX,_,rfl,?_⟩
 rw [decide_eq_true_iff,cmpI_le]
 exact ⟨fun h=>⟨h0,h⟩,fun h=>h.2⟩
end Go.Proofs.YtncbjgblcofddaaGreatDoor
namespace Go.Proofs.YtncbjgblcofddaaGreatDoor
open Go Go.Eng Go.Num Go.Proofs
open Go.Det (gr bm det Sy PM Red)
theorem set2_le {n N:Nat} {M:Nat→Nat→Int} {a b:Nat} {z:Int} (h:∀ i j,i < n→(M i j).natAbs≤N) (hz:z.natAbs≤N):∀ i j,i < n→(set2 M a b z i j).natAbs≤N:=by
 intro i j hi
 unfold set2
 split
 · exact hz
 · exact h i j hi
set_option maxHeartbeats 16000000 in
theorem chain_ok (m:Nat) (fork:Bool) (w:World) (_hm1:1≤m) (hm:m≤16) :
 Meets Tryz.prog 126 #[.int .i64 ((m:Nat):Int),.bool fork] w fun v w'=>∃ gO gs M,v = .slice (some ⟨gO,0,none⟩) m m∧w.heap.size≤gO∧(∀ i,i < m→gO < gs i)∧ZMat w' gO gs m m M∧(∀ i j,i < m→(M i j).natAbs≤2)∧Ext w w':=by
 refine fn_W (n:=57) Tryz.func126 rfl rfl (by kernel_rfl) (by simp) ?_
 refine gh ?_
 refine R1_make sl_si64 (.inl rfl) rfl rfl (Nat.le_refl _) (by omega) (by omega) ?_
 intro w1 hB1 hE1 hs1
 obtain ⟨gO,hgO⟩ : ∃ g,g = w.heap.size:=⟨_,rfl⟩
 rw [← hgO] at hB1 ⊢
 have hO1:Outer 85 w1 gO m 0 m (fun _=>0):=outer_made hB1
 have hP1:ZPart w1 gO (fun _=>0) m 0 m (fun _ _=>0):=⟨hO1,fun t ht=>absurd ht (by omega),fun t ht=>absurd ht (by omega),fun t t' ht=>absurd ht (by omega)⟩
 clear hB1 hO1
 refine gh ?_
 refine W_seqM (fun f w'=>∃ gs M,f 5 = .slice (some ⟨gO,0,none⟩) m m∧ZPart w' gO gs m m m M∧(∀ i j,i < m→(M i j).natAbs≤2)∧Ext w w') ?_ ?_
 · refine gh ?_
   refine W_loop (fun q f w'=>∃ i gs M,q = m - i∧i≤m∧f 0 = .int .i64 ((m:Nat):Int)∧f 1 = .bool (fork)∧f 5 = .slice (some ⟨gO,0,none⟩) m m∧f 11 = .int .i64 ((m:Nat):Int)∧f 12 = .int .i64 ((i:Nat):Int)∧ZPart w' gO gs m i m M∧(∀ t j,t < i→(M t j).natAbs≤2)∧Ext w w')
    m ⟨0,fun _=>0,fun _ _=>0,rfl,Nat.zero_le _,rfl,rfl,rfl,rfl,rfl,hP1,fun t j ht=>absurd ht (by omega),hE1⟩ ?_
   clear hP1 hE1 hs1 w1
   rintro q f w1 ⟨i,gs,M,rfl,hi,hf0,hf1,hf5,hf11,hf12,hP,hM,hE⟩
   rw [ui hf0,ui hf1,ui hf5,ui hf11,ui hf12]
   clear hf0 hf1 hf5 hf11 hf12
   by_cases hlt:i < m
   · have hOl:=hP.outer.lt
     refine gh ?_
     refine R1_make sl_i64 (.inl rfl) rfl rfl (Nat.le_refl _) (by omega) (by omega) ?_
     intro w2 hB2 hE2 hs2
     have hr2:=rowW_made hB2
     obtain ⟨gr,hgr⟩ : ∃ g,g = w1.heap.size:=⟨_,rfl⟩
     rw [← hgr] at hr2 ⊢
     clear hB2
     refine gh ?_
     refine R1_storeRow (one_of rfl) (.inl rfl) rfl rfl (hP.outer.ext hE2) hlt ?_
     intro w3 ⟨_,hO3⟩ hC3 hk3 hs3
     have hP3:=hP.more hE2 (by omega) hr2 hC3 (hO3 rfl)
     have hE3:Ext w w3:=hC3.ext_of (hE.trans hE2) (fun b hb=>by have:=hE.size; omega)
     have hwg:w.heap.size≤gr:=by have:=hE.size; omega
     clear hO3 hC3 hk3 hr2 hE2 hs2 hP hE
     have hx3:=hP3.at (t:=i) (by omega) hlt
     have hrow:=hP3.row i (by omega)
     rw [show setN gs i gr i = gr by simp [setN]] at hx3 hrow
     refine gh ?_
     refine R1_storeI (one_of rfl) (.inl rfl) rfl rfl hrow (by rw [arr_size]; omega) ?_
     intro w4 hB4 hC4 hs4
     have hP4:=hP3.put (t:=i) (by omega) (by rw [show setN gs i gr i = gr by simp [setN]]; exact RowW.set hB4) (by rw [show setN gs i gr i = gr by simp [setN]]; exact hC4)
     have hE4:Ext w w4:=hC4.ext_of hE3 (fun b hb=>by omega)
     have hM4:∀ t j,t < i + 1→(set2 (fun t=>if t = i then fun _=>0 else M t) i i 2 t j).natAbs≤2:=set2_le (fun t j ht=>by
      by_cases e:t = i
      · rw [if_pos e]; decide
      · rw [if_neg e]; exact hM t j (by omega)) (by decide)
     have hgs4:∀ t,t < i + 1→w.heap.size≤setN gs i gr t:=fun t ht=>by have:=hP4.gt t ht; omega
     generalize set2 (fun t=>if t = i then fun _=>(0:Int) else M t) i i 2 = M4 at hP4 hM4
     generalize setN gs i gr = gs4 at hP4 hgs4
     clear hP3 hx3 hrow hB4 hC4 hE3
     have hend:∀ (w5:World) (M5:Nat→Nat→Int) (f':Fr),ZPart w5 gO gs4 m (i + 1) m M5→(∀ t j,t < i + 1→(M5 t j).natAbs≤2)→Ext w w5→f' 0 = .int .i64 ((m:Nat):Int)→f' 1 = .bool fork→f' 5 = .slice (some ⟨gO,0,none⟩) m m→f' 11 = .int .i64 ((m:Nat):Int)→f' 12 = .int .i64 ((i + 1:Nat):Int) →
      ∃ m',m' < m - i∧∃ i gs M,m' = m - i∧i≤m∧f' 0 = .int .i64 ((m:Nat):Int)∧f' 1 = .bool fork∧f' 5 = .slice (some ⟨gO,0,none⟩) m m∧f' 11 = .int .i64 ((m:Nat):Int)∧f' 12 = .int .i64 ((i:Nat):Int)∧ZPart w5 gO gs m i m M∧(∀ t j,t < i→(M t j).natAbs≤2)∧Ext w w5 :=
      fun w5 M5 f' h1 h2 h3 g0 g1 g5 g11 g12=>⟨m - (i + 1),by omega,i + 1,gs4,M5,rfl,by omega,g0,g1,g5,g11,g12,h1,h2,h3⟩
     by_cases h0:i = 0
     · subst h0
       by_cases hm1:m = 1
       · subst hm1
         cases fork with
         | false =>
          refine gh ?_
          refine W_seq ?_
          refine gh ?_
          exact hend _ _ _ hP4 hM4 hE4 rfl rfl rfl rfl rfl
         | true =>
          refine gh ?_
          refine W_seq ?_
          refine gh ?_
          exact hend _ _ _ hP4 hM4 hE4 rfl rfl rfl rfl rfl
       · cases fork with
         | false =>
          refine gh ?_
          refine W_seq ?_
          refine gh ?_
          exact hend _ _ _ hP4 hM4 hE4 rfl rfl rfl rfl rfl
         | true =>
          refine gh ?_
          refine W_seq ?_
          refine gh ?_
          exact hend _ _ _ hP4 hM4 hE4 rfl rfl rfl rfl rfl
     refine gh ?_
     refine W_seqM (fun f w'=>∃ k,k < i∧f 0 = .int .i64 ((m:Nat):Int)∧f 1 = .bool fork∧f 5 = .slice (some ⟨gO,0,none⟩) m m∧f 6 = .int .i64 ((i:Nat):Int)∧f 7 = .int .i64 ((k:Nat):Int)∧f 11 = .int .i64 ((m:Nat):Int)∧f 12 = .int .i64 ((i:Nat):Int)∧w4 = w') ?_ ?_
     · cases fork with
       | false =>
        refine gh ?_
        exact ⟨i - 1,by omega,rfl,rfl,rfl,rfl,rfl,rfl,rfl,rfl⟩
       | true =>
        by_cases hl:i = m - 1
        · by_cases h3:3 < m
          · refine gh ?_
            exact ⟨i - 2,by omega,rfl,rfl,rfl,rfl,rfl,rfl,rfl,rfl⟩
          · refine gh ?_
            exact ⟨i - 1,by omega,rfl,rfl,rfl,rfl,rfl,rfl,rfl,rfl⟩
        · refine gh ?_
          exact ⟨i - 1,by omega,rfl,rfl,rfl,rfl,rfl,rfl,rfl,rfl⟩
     rintro f _ ⟨k,hk,hf0,hf1,hf5,hf6,hf7,hf11,hf12,rfl⟩
     rw [ui hf0,ui hf1,ui hf5,ui hf6,ui hf7,ui hf11,ui hf12]
     clear hf0 hf1 hf5 hf6 hf7 hf11 hf12
     refine gh ?_
     refine W_regD [(0,3),(1,3),(2,3),(3,0),(4,3),(5,3),(6,3),(7,3),(8,0),(9,3),(10,3),(11,2),(12,3),(13,2)] mixed (by kernel_rfl) (fun w5 hE5 _=>?_)
     have hx1:=(hP4.ext hE5).at (t:=i) (by omega) hlt
     have hx2:=(hP4.ext hE5).at (t:=k) (by omega) (by omega)
     refine gh ?_
     refine R1_storeI (one_of rfl) (.inl rfl) rfl rfl ((hP4.ext hE5).row i (by omega)) (by rw [arr_size]; omega) ?_
     intro w6 hB6 hC6 hs6
     have hP6:=(hP4.ext hE5).put (t:=i) (by omega) (RowW.set hB6) hC6
     have hM6:=set2_le (a:=i) (b:=k) (z:=-1) hM4 (by decide)
     have hg1:=hgs4 i (by omega)
     have hg2:=hgs4 k (by omega)
     refine gh ?_
     refine R1_storeI (one_of rfl) (.inl rfl) rfl rfl (hP6.row k (by omega)) (by rw [arr_size]; omega) ?_
     intro w7 hB7 hC7 hs7
     have hP7:=hP6.put (t:=k) (by omega) (RowW.set hB7) hC7
     have hM7:=set2_le (a:=k) (b:=i) (z:=-1) hM6 (by decide)
     refine gh ?_
     exact hend _ _ _ hP7 hM7 (hC7.ext_of (hC6.ext_of (hE4.trans hE5) (fun b hb=>by omega)) (fun b hb=>by omega)) rfl rfl rfl rfl rfl
   · refine gh ?_
     obtain rfl:i = m:=by omega
     exact ⟨gs,M,rfl,hP,hM,hE⟩
 rintro f w2 ⟨gs,M,hf5,hP,hM,hE2⟩
 rw [ui hf5]
 clear hf5
 refine gh ?_
 exact ret1 (v:=.slice _ _ _) rfl rfl ⟨gO,gs,M,rfl,by omega,hP.gt,hP.full,hM,hE2⟩
set_option maxHeartbeats 16000000 in
theorem general_ok (g:Nat) (A:Option Addr) (n c k m:Nat) (ns:Nat→Int) (w0 w:World) (hE0:Ext w0 w) (hN:Nums w0 A n ns) (hg:w0.heap.size≤g) (hB:TapeB w g A n c k) (hm1:1≤m) (hm:m≤16) :
 Meets Tryz.prog 125 #[.pointer (some ⟨g,0,none⟩),.int .i64 ((m:Nat):Int)] w fun v w'=>∃ k' gO gs M,v = .slice (some ⟨gO,0,none⟩) m m∧w.heap.size≤gO∧(∀ i,i < m→gO < gs i)∧ZMat w' gO gs m m M∧(∀ i j,i < m→(M i j).natAbs≤100)∧TapeB w' g A n c k'∧Ext w0 w':=by
 refine fn_W (n:=45) Tryz.func125 rfl rfl (by kernel_rfl) (by simp) ?_
 have hgl:g < w.heap.size:=Blk.lt hB
 refine gh ?_
 refine R1_call2 (diagonal_ok g A n c k m 6 ns w0 w hE0 hN hg hB hm1 hm (by decide) (by decide)) ?_
 rintro _ w1 ⟨k1,gO,gs,D,rfl,hgO,hgs,hZ,hD,hB1,hE1⟩
 have hws:=hE0.size
 have hM0:∀ i j,i < m→(dgM D i j).natAbs≤100:=fun i j hi=>by
  unfold dgM
  have:=hD i hi
  split
  · omega
  · decide
 generalize dgM D = M0 at hZ hM0
 clear hB hE0 hD
 refine gh ?_
 refine W_seqM (fun f w'=>∃ k' M,f 5 = .slice (some ⟨gO,0,none⟩) m m∧ZMat w' gO gs m m M∧(∀ i j,i < m→(M i j).natAbs≤100)∧TapeB w' g A n c k'∧Ext w0 w') ?_ ?_
 · refine gh ?_
   refine W_loop (fun q f w'=>∃ i k' M,q = m - i∧i≤m∧f 0 = .pointer (some ⟨g,0,none⟩)∧f 5 = .slice (some ⟨gO,0,none⟩) m m∧f 12 = .int .i64 ((m:Nat):Int)∧f 13 = .int .i64 ((i:Nat):Int)∧ZMat w' gO gs m m M∧(∀ i j,i < m→(M i j).natAbs≤100)∧TapeB w' g A n c k'∧Ext w0 w')
    m ⟨0,k1,M0,rfl,Nat.zero_le _,rfl,rfl,rfl,rfl,hZ,hM0,hB1,hE1⟩ ?_
   clear hZ hM0 hB1 hE1 w1
   rintro u f w1 ⟨i,k',M,rfl,hi,hf0,hf5,hf12,hf13,hZ,hM,hB,hE⟩
   rw [ui hf0,ui hf5,ui hf12,ui hf13]
   clear hf0 hf5 hf12 hf13
   by_cases hlt:i < m
   · refine gh ?_
     refine W_loop (fun u f w'=>∃ j k' M,u = i - j∧j≤i∧f 0 = .pointer (some ⟨g,0,none⟩)∧f 5 = .slice (some ⟨gO,0,none⟩) m m∧f 12 = .int .i64 ((m:Nat):Int)∧f 13 = .int .i64 ((i:Nat):Int)∧f 6 = .int .i64 ((i:Nat):Int)∧f 7 = .int .i64 ((j:Nat):Int)∧ZMat w' gO gs m m M∧(∀ i j,i < m→(M i j).natAbs≤100)∧TapeB w' g A n c k'∧Ext w0 w')
      i ⟨0,k',M,rfl,Nat.zero_le _,rfl,rfl,rfl,rfl,rfl,rfl,hZ,hM,hB,hE⟩ ?_
     clear hZ hM hB hE w1
     rintro u f w1 ⟨j,k',M,rfl,hj,hf0,hf5,hf12,hf13,hf6,hf7,hZ,hM,hB,hE⟩
     rw [ui hf0,ui hf5,ui hf12,ui hf13,ui hf6,ui hf7]
     clear hf0 hf5 hf12 hf13 hf6 hf7
     refine W_seq ?_
     by_cases hjl:j < i
     · have hgi:=hgs i hlt
       have hgj:=hgs j (by omega)
       refine gh ?_
       refine W_seqDM (fun b=>b = g) [(0,3),(1,3),(2,3),(3,0),(4,3),(5,3),(6,1),(7,3),(8,3),(9,2)] mixed (by kernel_rfl) (fun w4 hE4 _=>?_)
       have hx4:=(hZ.ext hE4).at hlt
       refine gh ?_
       refine R1_load1M (by decide) (one_of rfl) rfl hx4 (by show ¬ gO = g; omega) ?_
       refine gh ?_
       refine R1_callS (next_ok g A n c k' ns w0 w4 (hE.trans hE4) hN hg (hB.ext hE4)) ?_
       rintro _ w5 ⟨rfl,hB5,hC5,hk5⟩
       refine ⟨hC5,?_⟩
       have hZ5:=(hZ.ext hE4).ch hC5 (by omega) (fun t ht=>by have:=hgs t ht; omega)
       have hE5:Ext w0 w5:=hC5.ext_of (hE.trans hE4) (fun b hb=>by omega)
       obtain ⟨z,hz⟩ : ∃ z,z = (tp n ns k').tmod 3:=⟨_,rfl⟩
       have hz2:z.natAbs≤100:=by
        have h1:=Int.tmod_lt_of_pos (tp n ns k') (show (0:Int) < 3 by decide)
        have h2:=Int.tmod_lt_of_pos (-(tp n ns k')) (show (0:Int) < 3 by decide)
        rw [Int.neg_tmod] at h2
        omega
       refine gh ?_
       refine R1_rem_z rfl rfl (by decide) ?_
       rw [show (tp n ns k').tmod 3 = z from hz.symm]
       refine gh ?_
       refine R1_storeI (one_of rfl) (.inl rfl) rfl rfl (hZ5.row i hlt) (by rw [arr_size]; omega) ?_
       intro w6 hB6 hC6 hs6
       have hZ6:=hZ5.put hlt (RowW.set hB6) hC6
       have hM6:=set2_le (a:=i) (b:=j) (z:=z) hM hz2
       have hB6':TapeB w6 g A n c (k' + 1):=Blk.ch hB5 hC6 (by omega)
       have hE6:Ext w0 w6:=hC6.ext_of hE5 (fun b hb=>by omega)
       refine gh ?_
       refine W_regD [(0,3),(1,3),(2,3),(3,0),(4,3),(5,3),(6,3),(7,3),(8,0),(9,3),(10,3),(11,0),(12,3),(13,2)] mixed (by kernel_rfl) (fun w7 hE7 _=>?_)
       have hx1:=(hZ6.ext hE7).at hlt
       have hx2:=(hZ6.ext hE7).at (i:=j) (by omega)
       have hx3:=((hZ6.ext hE7).row i hlt).at (j:=j) (by omega)
       refine gh ?_
       refine R1_storeI (one_of rfl) (.inl rfl) rfl rfl ((hZ6.ext hE7).row j (by omega)) (by rw [arr_size]; omega) ?_
       intro w8 hB8 hC8 hs8
       have hZ8:=(hZ6.ext hE7).put (i:=j) (by omega) (RowW.set hB8) hC8
       have hM8:=set2_le (a:=j) (b:=i) hM6 (hM6 i j hlt)
       refine gh ?_
       refine ⟨_,?_,j + 1,k' + 1,_,rfl,by omega,rfl,rfl,rfl,rfl,rfl,rfl,hZ8,hM8,Blk.ch (Blk.ext hB6' hE7) hC8 (by omega),hC8.ext_of (hE6.trans hE7) (fun b hb=>by omega)⟩
       omega
     · refine gh ?_
       refine ⟨_,?_,i + 1,k',M,rfl,by omega,rfl,rfl,rfl,rfl,hZ,hM,hB,hE⟩
       omega
   · refine gh ?_
     exact ⟨k',M,rfl,hZ,hM,hB,hE⟩
 rintro f w2 ⟨k',M,hf5,hZ,hM,hB,hE⟩
 rw [ui hf5]
 clear hf5
 refine gh ?_
 exact ret1 (v:=.slice _ _ _) rfl rfl ⟨k',gO,gs,M,rfl,hgO,hgs,hZ,hM,hB,hE⟩
end Go.Proofs.YtncbjgblcofddaaGreatDoor
namespace Go.Proofs.YtncbjgblcofddaaGreatDoor
open Go Go.Eng Go.Num Go.Proofs
def LatV (w:World) (v:Value) (dm kd n:Nat) (ns:Nat→Int) (m:Nat) (ms:Nat→Int):Prop :=
 ∃ A cap A' cap',v = .agg #[.int .u8 ((dm:Nat):Int),.int .u8 ((kd:Nat):Int),.slice A n cap,.slice A' m cap']∧dm < 256∧kd < 256∧n≤cap∧m≤cap'∧Nums w A n ns∧Nums w A' m ms
section
variable {H:Type} {enc:TypeId × Value→H} {w:World} {sp:Nat→Bool} {hd:Bool}
theorem cells_Lat:Tryz.prog.cellsOf 25 = 4:=by kernel_rfl
theorem four_of_len {l:List Value} (h:l.length = 4):∃ a b c d,l = [a,b,c,d]:=by
 match l,h with
 | [a,b,c,d],_=>exact ⟨a,b,c,d,rfl⟩
theorem open_lat {v:Value} {d:DataW H} {ps:List MemPlace} (h:DataW.Trod enc Tryz.prog w 0 sp hd 25 v d ps) (hw:Wt 25 d) (hv:∃ cs,v = .agg cs) :
 ∃ dm kd n ns m ms,LatV w v dm kd n ns m ms:=by
 obtain ⟨cs,rfl⟩:=hv
 obtain ⟨fuel,h⟩:=h
 obtain ⟨y0,y1,y2,y3,n,e,hl,h0,h1,h2,h3⟩:=Go.Joins.trod_struct4 Tryz.underlying25 h
 rw [cells_Lat] at hl
 obtain ⟨a,b,c,f,e3⟩:=four_of_len hl
 rw [e3] at h0 h1 h2 h3
 have h0:DataW.trod enc Tryz.prog w 0 sp hd n 5 (([a,b,c,f].drop 0).take (Tryz.prog.cellsOf 5)) = some y0:=h0
 have h1:DataW.trod enc Tryz.prog w 0 sp hd n 5 (([a,b,c,f].drop 1).take (Tryz.prog.cellsOf 5)) = some y1:=h1
 have h2:DataW.trod enc Tryz.prog w 0 sp hd n 23 (([a,b,c,f].drop 2).take (Tryz.prog.cellsOf 23)) = some y2:=h2
 have h3:DataW.trod enc Tryz.prog w 0 sp hd n 23 (([a,b,c,f].drop 3).take (Tryz.prog.cellsOf 23)) = some y3:=h3
 rw [cells_u8] at h0 h1
 rw [cells_si8] at h2 h3
 have h0:DataW.trod enc Tryz.prog w 0 sp hd n 5 [a] = some y0:=h0
 have h1:DataW.trod enc Tryz.prog w 0 sp hd n 5 [b] = some y1:=h1
 have h2:DataW.trod enc Tryz.prog w 0 sp hd n 23 [c] = some y2:=h2
 have h3:DataW.trod enc Tryz.prog w 0 sp hd n 23 [f] = some y3:=h3
 injection e with e _
 subst e
 have ew:DataW.weights Tryz.prog 25 (.agg [y0.1,y1.1,y2.1,y3.1]) = DataW.weights Tryz.prog 5 y0.1 ++ (DataW.weights Tryz.prog 5 y1.1 ++ (DataW.weights Tryz.prog 23 y2.1 ++ (DataW.weights Tryz.prog 23 y3.1 ++ []))):=by rw [DataW.weights,Tryz.underlying25]; rfl
 have hw1:Wt 23 y2.1:=fun m hm=>hw m (by
  rw [ew]
  exact List.mem_append_right _ (List.mem_append_right _ (List.mem_append_left _ hm)))
 have hw2:Wt 23 y3.1:=fun m hm=>hw m (by
  rw [ew]
  exact List.mem_append_right _ (List.mem_append_right _ (List.mem_append_right _ (List.mem_append_left _ hm))))
 obtain ⟨A,m,cap,ns,e,hc,hN⟩:=open_i8s h2 hw1
 injection e with e
 subst e
 obtain ⟨A',m',cap',ms,e,hc',hN'⟩:=open_i8s h3 hw2
 injection e with e
 subst e
 obtain ⟨ra,rfl,hra⟩:=open_u8 h0
 obtain ⟨rb,rfl,hrb⟩:=open_u8 h1
 have e4:cs = #[.int .u8 ((ra:Nat):Int),.int .u8 ((rb:Nat):Int),.slice A m cap,.slice A' m' cap']:=by
  cases cs with | mk l=>exact congrArg Array.mk e3
 exact ⟨ra,rb,m,ns,m',ms,A,cap,A',cap',by rw [e4],hra,hrb,hc,hc',hN,hN'⟩
end
end Go.Proofs.YtncbjgblcofddaaGreatDoor
namespace Go.Proofs.YtncbjgblcofddaaGreatDoor
open Go Go.Eng Go.Num Go.Proofs
open Go.Det (gr bm det Sy PM Red)
theorem agg_Lat:aggTy Tryz.prog 25 4 = true:=by kernel_rfl
theorem fa_Lat0:FieldA Tryz.prog 25 0 0:=by
 unfold FieldA
 intro a w
 simp [Instr.fieldAt,run_underlying Tryz.underlying25,Instr.sureAddr,fieldPlace,size_one (one_of (t:=5) rfl)]
theorem fa_Lat1:FieldA Tryz.prog 25 1 1:=by
 unfold FieldA
 intro a w
 simp [Instr.fieldAt,run_underlying Tryz.underlying25,Instr.sureAddr,fieldPlace,size_one (one_of (t:=5) rfl)]
theorem fa_Lat2:FieldA Tryz.prog 25 2 2:=by
 unfold FieldA
 intro a w
 simp [Instr.fieldAt,run_underlying Tryz.underlying25,Instr.sureAddr,fieldPlace,size_one (one_of (t:=23) rfl)]
theorem fa_Lat3:FieldA Tryz.prog 25 3 3:=by
 unfold FieldA
 intro a w
 simp [Instr.fieldAt,run_underlying Tryz.underlying25,Instr.sureAddr,fieldPlace,size_one (one_of (t:=23) rfl)]
section
variable {P:Program} {n:Nat} {S:World→World→Prop} {k:Nat} {K:Fr→World→Prop} {f:Fr} {w:World} {d ty t t2:Nat} {x y:Operand} {pos:String} {aft:Array Edge} {g:Option (Nat × Bool)}
theorem R1_rem_u8L {a b:Nat} (hx:ev n f x = .int .u8 ((a:Nat):Int)) (hy:ev n f y = .int .u8 ((b:Nat):Int)) (hb:0 < b) (h:K (upd f d (.int .u8 ((a % b:Nat):Int))) w):R1 P n S k ⟨some d,.binOp .rem t x y t2,ty,pos,aft,g⟩ K f w:=by
 refine R1_bin hx hy (fun _=>by simp [eqGuard,go_sem]) (fun _=>?_) h
 have e:((b:Int) = 0) = False:=by (simp; omega)
 simp only [binOp,Op.intDiv,ne_eq,not_true_eq_false,if_false,e]
 rfl
end
theorem dg_det (D:Nat→Int):∀ n,(∀ i,i < n→1≤D i∧D i≤2)→1≤det n (dgM D)∧det n (dgM D)≤2 ^ n
 | 0,_=>by simp [det]
 | n + 1,h=>by
  obtain ⟨h1,h2⟩:=dg_det D n fun i hi=>h i (by omega)
  obtain ⟨h3,h4⟩:=h n (by omega)
  have e:det (n + 1) (dgM D) = D n * det n (dgM D):=by
   rw [Go.Det.det_last n _ fun j hj=>if_neg (by omega)]
   unfold dgM; rw [if_pos rfl]
  rw [e]
  have h5:=Int.mul_le_mul h3 h1 (by decide) (by omega)
  have h6:=Int.mul_le_mul h4 h2 (by omega) (by decide)
  rw [Int.pow_succ]
  omega
theorem dg_ok {D:Nat→Int} {n:Nat} (hn1:1≤n) (hn:n≤8) (h:∀ i,i < n→1≤D i∧D i≤2):valE n (fun _=>n) (dgM D) = 0∧det n (dgM D)≤10000:=by
 refine ⟨valE_0 ⟨okS_iff.2 ⟨hn1,by omega,fun _ _=>rfl⟩,hn⟩ (fun i j hi hj=>?_) fun q hq=>?_,?_⟩
 · unfold dgM; rw [if_neg (by omega),if_neg (by omega)]
 · have:=(dg_det D (q + 1) fun i hi=>h i (by omega)).1
   omega
 · have h2:=(dg_det D n h).2
   have h8:(2:Nat) ^ n≤2 ^ 8:=Nat.pow_le_pow_right (by decide) hn
   have e8:(2:Nat) ^ 8 = 256:=by decide
   have e9:((2 ^ n:Nat):Int) = (2:Int) ^ n:=by rw [Int.natCast_pow]; rfl
   omega
def RGm (w:World) (n:Nat) (v:Value) (w':World):Prop :=
 Ext w w'∧∃ gO gs M,v = .slice (some ⟨gO,0,none⟩) n n∧w.heap.size≤gO∧(∀ i,i < n→gO < gs i)∧ZMat w' gO gs n n M∧valE n (fun _=>n) M = 0∧det n M≤10000∧∀ i j,i < n→(M i j).natAbs≤1000
theorem blk40 {w:World} {g T:Nat} {x y z u:Value} (h:Blk w g T #[x,y,z,u]):w.cell? ⟨g,0 + 0,none⟩ = some x:=by rw [h.cell]; rfl
theorem blk41 {w:World} {g T:Nat} {x y z u:Value} (h:Blk w g T #[x,y,z,u]):w.cell? ⟨g,0 + 1,none⟩ = some y:=by rw [h.cell]; rfl
theorem blk42 {w:World} {g T:Nat} {x y z u:Value} (h:Blk w g T #[x,y,z,u]):w.cell? ⟨g,0 + 2,none⟩ = some z:=by rw [h.cell]; rfl
set_option maxHeartbeats 16000000 in
theorem latGram_ok (v:Value) (dm kd q m most:Nat) (ns ms:Nat→Int) (w:World) (h:LatV w v dm kd q ns m ms) (hmo:0 < most) (hmo8:most≤8) :
 Meets Tryz.prog 68 #[v,.int .i64 ((most:Nat):Int)] w (RGm w (1 + dm % most)):=by
 obtain ⟨A,cap,A',cap',rfl,hd,hk,hc,hc',hN,hN'⟩:=h
 refine fn_W (n:=74) Tryz.func68 rfl rfl (by kernel_rfl) (by simp) ?_
 have hdm:=Nat.mod_lt dm hmo
 obtain ⟨n,hn⟩ : ∃ n,n = 1 + dm % most:=⟨_,rfl⟩
 rw [← hn]
 have hn1:1≤n:=by omega
 have hn8:n≤8:=by omega
 refine gh ?_
 refine R1_box (v:=.agg _) (.inl rfl) rfl ?_
 intro w1 hB1 hE1 hs1
 have hX1:Blk w1 w.heap.size 25 #[.int .u8 ((dm:Nat):Int),.int .u8 ((kd:Nat):Int),.slice A q cap,.slice A' m cap']:=hB1
 obtain ⟨gX,hgX⟩ : ∃ g,g = w.heap.size:=⟨_,rfl⟩
 rw [← hgX] at hX1 ⊢
 clear hB1
 have c2:=blk42 hX1
 refine gh ?_
 refine R1_fieldAddr fa_Lat2 rfl ?_
 refine gh ?_
 refine R1_bldTape rfl ?_
 refine gh ?_
 refine R1_box (v:=.agg _) (.inl rfl) rfl ?_
 intro w2 hB2 hE2 hs2
 have hT2:TapeB w2 w1.heap.size A q cap 0:=by unfold TapeB; rw [Nat.zero_min]; exact hB2
 obtain ⟨gT,hgT⟩ : ∃ g,g = w1.heap.size:=⟨_,rfl⟩
 rw [← hgT] at hT2 ⊢
 have hX2:=hX1.ext hE2
 have hE02:=hE1.trans hE2
 have hgw:w.heap.size≤gT:=by omega
 clear hB2 c2 hX1
 have c0:=blk40 hX2
 have c1:=blk41 hX2
 refine gh ?_
 refine R1_fieldAddr fa_Lat0 rfl ?_
 refine gh ?_
 refine R1_rem_i64 rfl rfl hmo ?_
 refine gh ?_
 rw [show (OfNat.ofNat 1 + dm % most:Nat) = n from hn.symm]
 obtain ⟨kk,hkk⟩ : ∃ kk,kk = kd % 8:=⟨_,rfl⟩
 have hkk8:kk < 8:=by omega
 refine gh ?_
 refine W_seqM (fun f w'=>∃ k' gO gs M,f 5 = .pointer (some ⟨gT,0,none⟩)∧f 6 = .int .i64 ((n:Nat):Int)∧f 7 = .slice (some ⟨gO,0,none⟩) n n∧w2.heap.size≤gO∧(∀ i,i < n→gO < gs i)∧ZMat w' gO gs n n M∧(∀ i j,i < n→(M i j).natAbs≤1000)∧TapeB w' gT A q cap k'∧Ext w w') ?_ ?_
 · refine gh ?_
   refine R1_fieldAddr fa_Lat1 rfl ?_
   refine gh ?_
   refine R1_rem_u8L (b:=8) rfl rfl (by decide) ?_
   rw [show kd % 8 = kk from hkk.symm]
   refine gh ?_
   refine W_seq ?_
   refine gh ?_
   have:kk = 0 ∨ kk = 1 ∨ kk = 2 ∨ kk = 3 ∨ kk = 4 ∨ kk = 5 ∨ kk = 6 ∨ kk = 7:=by omega
   clear hkk hkk8 c0 c1 hX2
   rcases this with rfl | rfl | rfl | rfl | rfl | rfl | rfl | rfl
   · refine R1_eql_u8_c rfl ?_
     refine gh ?_
     refine R1_call2 (general_ok gT A q cap 0 n ns w w2 hE02 hN hgw hT2 hn1 (by omega)) ?_
     rintro _ w3 ⟨k',gO,gs,M,rfl,hgO,hgs,hZ,hM,hT3,hE3⟩
     refine gh ?_
     exact ⟨k',gO,gs,M,rfl,rfl,rfl,hgO,hgs,hZ,fun i j hi=>by (have:=hM i j hi; omega),hT3,hE3⟩
   · refine R1_eql_u8_c rfl ?_
     refine gh ?_
     refine R1_eql_u8_c rfl ?_
     refine gh ?_
     refine R1_call2 (general_ok gT A q cap 0 n ns w w2 hE02 hN hgw hT2 hn1 (by omega)) ?_
     rintro _ w3 ⟨k',gO,gs,M,rfl,hgO,hgs,hZ,hM,hT3,hE3⟩
     refine gh ?_
     exact ⟨k',gO,gs,M,rfl,rfl,rfl,hgO,hgs,hZ,fun i j hi=>by (have:=hM i j hi; omega),hT3,hE3⟩
   · refine R1_eql_u8_c rfl ?_
     refine gh ?_
     refine R1_eql_u8_c rfl ?_
     refine gh ?_
     refine R1_eql_u8_c rfl ?_
     refine gh ?_
     refine R1_call2 (general_ok gT A q cap 0 n ns w w2 hE02 hN hgw hT2 hn1 (by omega)) ?_
     rintro _ w3 ⟨k',gO,gs,M,rfl,hgO,hgs,hZ,hM,hT3,hE3⟩
     refine gh ?_
     exact ⟨k',gO,gs,M,rfl,rfl,rfl,hgO,hgs,hZ,fun i j hi=>by (have:=hM i j hi; omega),hT3,hE3⟩
   · refine R1_eql_u8_c rfl ?_
     refine gh ?_
     refine R1_eql_u8_c rfl ?_
     refine gh ?_
     refine R1_eql_u8_c rfl ?_
     refine gh ?_
     refine R1_eql_u8_c rfl ?_
     refine gh ?_
     refine R1_call2 (general_ok gT A q cap 0 n ns w w2 hE02 hN hgw hT2 hn1 (by omega)) ?_
     rintro _ w3 ⟨k',gO,gs,M,rfl,hgO,hgs,hZ,hM,hT3,hE3⟩
     refine gh ?_
     exact ⟨k',gO,gs,M,rfl,rfl,rfl,hgO,hgs,hZ,fun i j hi=>by (have:=hM i j hi; omega),hT3,hE3⟩
   · refine R1_eql_u8_c rfl ?_
     refine gh ?_
     refine R1_eql_u8_c rfl ?_
     refine gh ?_
     refine R1_eql_u8_c rfl ?_
     refine gh ?_
     refine R1_eql_u8_c rfl ?_
     refine gh ?_
     refine R1_eql_u8_c rfl ?_
     refine gh ?_
     refine R1_call2 (chain_ok n false w2 hn1 (by omega)) ?_
     rintro _ w3 ⟨gO,gs,M,rfl,hgO,hgs,hZ,hM,hE3⟩
     have hT3:TapeB w3 gT A q cap 0:=Blk.ext hT2 hE3
     have hgTl:gT < w2.heap.size:=Blk.lt hT2
     refine gh ?_
     refine W_regDM (fun b=>b = gT) [(0,3),(1,3),(2,0),(3,3),(4,0),(5,3),(6,1),(7,3),(8,3),(9,2)] mixed (by kernel_rfl) (fun w4 hE4 _=>?_)
     have hi0:0 < n:=by omega
     have hx4:=(hZ.ext hE4).at hi0
     have hy4:=((hZ.ext hE4).row _ hi0).at hi0
     have hg0:=hgs _ hi0
     have hm0:=hM (0) (0) hi0
     refine gh ?_
     refine R1_load1M (by decide) (one_of rfl) rfl hx4 (by show ¬ gO = gT; omega) ?_
     refine gh ?_
     refine R1_load1M (by decide) (one_of rfl) rfl hy4 (by show ¬ gs (0) = gT; omega) ?_
     refine gh ?_
     refine R1_callS (below_ok gT A q cap 0 3 ns w w4 (hE02.trans (hE3.trans hE4)) hN hgw (hT3.ext hE4) (by decide) (by decide)) ?_
     rintro _ w5 ⟨⟨b,rfl,hbm⟩,hB5,hC5,hk5⟩
     refine ⟨hC5,?_⟩
     have hZ5:=(hZ.ext hE4).ch hC5 (by omega) (fun t ht=>by (have:=hgs t ht; omega))
     have hE5:Ext w w5:=hC5.ext_of (hE02.trans (hE3.trans hE4)) (fun b hb=>by omega)
     refine gh ?_
     refine R1_storeI (one_of rfl) (.inl rfl) rfl rfl (hZ5.row _ hi0) (by rw [arr_size]; omega) ?_
     intro w6 hB6 hC6 hs6
     have hZ6:=hZ5.put hi0 (RowW.set hB6) hC6
     have hsw:=hE02.size
     have hM6:=set2_le (M:=M) (N:=1000) (a:=0) (b:=0) (z:=M (0) (0) + ((b:Nat):Int)) (fun i j hi=>by (have:=hM i j hi; omega)) (by omega)
     refine gh ?_
     exact ⟨1,gO,gs,_,rfl,rfl,rfl,hgO,hgs,hZ6,hM6,Blk.ch hB5 hC6 (by omega),hC6.ext_of hE5 (fun b hb=>by omega)⟩
   · refine R1_eql_u8_c rfl ?_
     refine gh ?_
     refine R1_eql_u8_c rfl ?_
     refine gh ?_
     refine R1_eql_u8_c rfl ?_
     refine gh ?_
     refine R1_eql_u8_c rfl ?_
     refine gh ?_
     refine R1_eql_u8_c rfl ?_
     refine gh ?_
     refine R1_eql_u8_c rfl ?_
     refine gh ?_
     refine R1_call2 (chain_ok n true w2 hn1 (by omega)) ?_
     rintro _ w3 ⟨gO,gs,M,rfl,hgO,hgs,hZ,hM,hE3⟩
     have hT3:TapeB w3 gT A q cap 0:=Blk.ext hT2 hE3
     have hgTl:gT < w2.heap.size:=Blk.lt hT2
     refine gh ?_
     refine W_regDM (fun b=>b = gT) [(0,3),(1,3),(2,3),(3,3),(4,0),(5,3),(6,3),(7,3),(8,0),(9,3),(10,1),(11,3),(12,3),(13,2)] mixed (by kernel_rfl) (fun w4 hE4 _=>?_)
     have hi0:n - 1 < n:=by omega
     have hx4:=(hZ.ext hE4).at hi0
     have hy4:=((hZ.ext hE4).row _ hi0).at hi0
     have hg0:=hgs _ hi0
     have hm0:=hM (n - 1) (n - 1) hi0
     refine gh ?_
     refine R1_load1M (by decide) (one_of rfl) rfl hx4 (by show ¬ gO = gT; omega) ?_
     refine gh ?_
     refine R1_load1M (by decide) (one_of rfl) rfl hy4 (by show ¬ gs (n - 1) = gT; omega) ?_
     refine gh ?_
     refine R1_callS (below_ok gT A q cap 0 2 ns w w4 (hE02.trans (hE3.trans hE4)) hN hgw (hT3.ext hE4) (by decide) (by decide)) ?_
     rintro _ w5 ⟨⟨b,rfl,hbm⟩,hB5,hC5,hk5⟩
     refine ⟨hC5,?_⟩
     have hZ5:=(hZ.ext hE4).ch hC5 (by omega) (fun t ht=>by (have:=hgs t ht; omega))
     have hE5:Ext w w5:=hC5.ext_of (hE02.trans (hE3.trans hE4)) (fun b hb=>by omega)
     refine gh ?_
     refine R1_storeI (one_of rfl) (.inl rfl) rfl rfl (hZ5.row _ hi0) (by rw [arr_size]; omega) ?_
     intro w6 hB6 hC6 hs6
     have hZ6:=hZ5.put hi0 (RowW.set hB6) hC6
     have hsw:=hE02.size
     have hM6:=set2_le (M:=M) (N:=1000) (a:=n - 1) (b:=n - 1) (z:=M (n - 1) (n - 1) + ((b:Nat):Int)) (fun i j hi=>by (have:=hM i j hi; omega)) (by omega)
     refine gh ?_
     exact ⟨1,gO,gs,_,rfl,rfl,rfl,hgO,hgs,hZ6,hM6,Blk.ch hB5 hC6 (by omega),hC6.ext_of hE5 (fun b hb=>by omega)⟩
   · refine R1_eql_u8_c rfl ?_
     refine gh ?_
     refine R1_eql_u8_c rfl ?_
     refine gh ?_
     refine R1_eql_u8_c rfl ?_
     refine gh ?_
     refine R1_eql_u8_c rfl ?_
     refine gh ?_
     refine R1_eql_u8_c rfl ?_
     refine gh ?_
     refine R1_eql_u8_c rfl ?_
     refine gh ?_
     refine R1_eql_u8_c rfl ?_
     refine gh ?_
     refine R1_call2 (diagonal_ok gT A q cap 0 n 9 ns w w2 hE02 hN hgw hT2 hn1 (by omega) (by decide) (by decide)) ?_
     rintro _ w3 ⟨k',gO,gs,D,rfl,hgO,hgs,hZ,hD,hT3,hE3⟩
     refine gh ?_
     exact ⟨k',gO,gs,_,rfl,rfl,rfl,hgO,hgs,hZ,fun i j hi=>by (have:=hD i hi; unfold dgM; split <;> omega),hT3,hE3⟩
   · refine R1_eql_u8_c rfl ?_
     refine gh ?_
     refine R1_eql_u8_c rfl ?_
     refine gh ?_
     refine R1_eql_u8_c rfl ?_
     refine gh ?_
     refine R1_eql_u8_c rfl ?_
     refine gh ?_
     refine R1_eql_u8_c rfl ?_
     refine gh ?_
     refine R1_eql_u8_c rfl ?_
     refine gh ?_
     refine R1_eql_u8_c rfl ?_
     refine gh ?_
     refine R1_call2 (diagonal_ok gT A q cap 0 n 1 ns w w2 hE02 hN hgw hT2 hn1 (by omega) (by decide) (by decide)) ?_
     rintro _ w3 ⟨k',gO,gs,D,rfl,hgO,hgs,hZ,hD,hT3,hE3⟩
     refine gh ?_
     exact ⟨k',gO,gs,_,rfl,rfl,rfl,hgO,hgs,hZ,fun i j hi=>by (have:=hD i hi; unfold dgM; split <;> omega),hT3,hE3⟩
 rintro f w3 ⟨k',gO,gs,M,hf5,hf6,hf7,hgO,hgs,hZ,hM,hT,hE⟩
 rw [ui hf5,ui hf6,ui hf7]
 clear hf5 hf6 hf7
 have hsz:=hE02.size
 refine W_seq ?_
 refine gh ?_
 refine R1_call2 (good_ok _ n M w3 (hZ.read (fun i j hi hj=>by have:=hM i j hi; omega) (by omega) (by omega)) hn1 (by omega)) ?_
 rintro _ w4 ⟨hE4,b,rfl,hb⟩
 cases b with
 | true =>
  refine gh ?_
  exact ret1 (v:=.slice _ _ _) rfl rfl ⟨hE.trans hE4,gO,gs,M,rfl,by omega,hgs,hZ.ext hE4,(hb.1 rfl).1,(hb.1 rfl).2,hM⟩
 | false =>
  have hT4:TapeB w4 gT A q cap k':=Blk.ext hT hE4
  refine gh ?_
  refine R1_call2 (diagonal_ok gT A q cap k' n 2 ns w w4 (hE.trans hE4) hN hgw hT4 hn1 (by omega) (by decide) (by decide)) ?_
  rintro _ w5 ⟨k5,gO5,gs5,D,rfl,hgO5,hgs5,hZ5,hD,hT5,hE5⟩
  have hs4:=(hE.trans hE4).size
  have hdg:=dg_ok hn1 hn8 hD
  refine gh ?_
  exact ret1 (v:=.slice _ _ _) rfl rfl ⟨hE5,gO5,gs5,_,rfl,by omega,hgs5,hZ5,hdg.1,hdg.2,fun i j hi=>by (have:=hD i hi; unfold dgM; split <;> omega)⟩
end Go.Proofs.YtncbjgblcofddaaGreatDoor
