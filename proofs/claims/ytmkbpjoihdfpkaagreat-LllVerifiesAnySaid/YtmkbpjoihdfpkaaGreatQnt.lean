/- Joined: Dta, Dtb, Dtc, Lyf. -/
import Derived.Test.YtmkbpjoihdfpkaaGreatQoi
import Derived.Test.YtmkbpjoihdfpkaaGreatQoj
import Derived.Test.YtmkbpjoihdfpkaaGreatQol
/- quadformmake,once more: what is made,exactly. -/
namespace Go.Proofs.YtmkbpjoihdfpkaaGreat
open Go Go.Eng Go.Num Go.Proofs
open Go.Det (gr bm det Sy PM Red)
def blw (q:Nat) (ns:Nat→Int) (k m:Nat):Nat:=(tp q ns k % 256).toNat % m
set_option maxHeartbeats 8000000 in
theorem belowD_ok (g:Nat) (A:Option Addr) (n c k m:Nat) (ns:Nat→Int) (w0 w:World) (hE0:Ext w0 w) (hN:Nums w0 A n ns) (hg:w0.heap.size≤g) (hB:TapeB w g A n c k) (hm:0 < m) (_hm2:m < 4294967296) :
 Meets Tryz.prog 50 #[.pointer (some ⟨g,0,none⟩),.int .i64 ((m:Nat):Int)] w fun v w'=>v = .int .i64 ((blw n ns k m:Nat):Int)∧TapeB w' g A n c (k + 1)∧Ch (fun b=>b = g) w w'∧Kp w w':=by
 refine fn_W (n:=11) Tryz.func50 rfl rfl (by kernel_rfl) (by simp) ?_
 refine gh ?_
 refine R1_call2 (next_ok g A n c k ns w0 w hE0 hN hg hB) ?_
 rintro _ w1 ⟨rfl,hT1,hC1,hk1⟩
 have hr:=tp_range hN k
 obtain ⟨b,hbe⟩ : ∃ b:Nat,b = (tp n ns k % 256).toNat:=⟨_,rfl⟩
 have hb:tp n ns k % 256 = ((b:Nat):Int):=by omega
 have hb2:b < 256:=by omega
 refine gh ?_
 refine R1_conv (k1:=.i64) (b:=((b:Nat):Int)) ty_i64 ty_u8 rfl (by rw [IntKind.wrap_u8]; omega) ?_
 refine gh ?_
 refine R1_rem_i64 rfl rfl hm ?_
 refine gh ?_
 exact ret1 rfl rfl ⟨by unfold blw; rw [← hbe]; rfl,hT1,hC1,hk1⟩
theorem blw_lt {q k m:Nat} {ns:Nat→Int} (h:0 < m):blw q ns k m < m:=Nat.mod_lt _ h
def dgD (q:Nat) (ns:Nat→Int) (k most:Nat):Nat→Int:=fun t=>((OfNat.ofNat 1 + blw q ns (k + t) most:Nat):Int)
theorem dgD_lim {q k most:Nat} {ns:Nat→Int} (h:0 < most) (t:Nat):1≤dgD q ns k most t∧dgD q ns k most t≤most:=by
 have:=blw_lt (q:=q) (k:=k + t) (ns:=ns) h
 unfold dgD
 have e:(OfNat.ofNat 1 + blw q ns (k + t) most:Nat) = 1 + blw q ns (k + t) most:=rfl
 omega
set_option maxHeartbeats 16000000 in
theorem diagonalD_ok (g:Nat) (A:Option Addr) (n c k m most:Nat) (ns:Nat→Int) (w0 w:World) (hE0:Ext w0 w) (hN:Nums w0 A n ns) (hg:w0.heap.size≤g) (hB:TapeB w g A n c k) (_hm1:1≤m) (hm:m≤16) (hmo:0 < most) (hmo2:most≤100) :
 Meets Tryz.prog 51 #[.pointer (some ⟨g,0,none⟩),.int .i64 ((m:Nat):Int),.int .i64 ((most:Nat):Int)] w fun v w'=>∃ gO gs,v = .slice (some ⟨gO,0,none⟩) m m∧w.heap.size≤gO∧(∀ i,i < m→gO < gs i)∧ZMat w' gO gs m m (dgM (dgD n ns k most))∧TapeB w' g A n c (k + m)∧Ext w0 w':=by
 refine fn_W (n:=33) Tryz.func51 rfl rfl (by kernel_rfl) (by simp) ?_
 have hgl:g < w.heap.size:=Blk.lt hB
 refine gh ?_
 refine R1_make sl_si64 (.inl rfl) rfl rfl (Nat.le_refl _) (by omega) (by omega) ?_
 intro w1 hB1 hE1 hs1
 obtain ⟨gO,hgO⟩ : ∃ g,g = w.heap.size:=⟨_,rfl⟩
 rw [← hgO] at hB1 ⊢
 have hO1:Outer 30 w1 gO m 0 m (fun _=>0):=outer_made hB1
 have hP1:ZPart w1 gO (fun _=>0) m 0 m (dgM (dgD n ns k most)):=⟨hO1,fun t ht=>absurd ht (by omega),fun t ht=>absurd ht (by omega),fun t t' ht=>absurd ht (by omega)⟩
 clear hB1 hO1
 have hE01:=hE0.trans hE1
 have hB1:TapeB w1 g A n c k:=Blk.ext hB hE1
 refine gh ?_
 refine W_seqM (fun f w'=>∃ gs,f 7 = .slice (some ⟨gO,0,none⟩) m m∧ZPart w' gO gs m m m (dgM (dgD n ns k most))∧TapeB w' g A n c (k + m)∧Ext w0 w') ?_ ?_
 · refine gh ?_
   refine W_loop (fun q f w'=>∃ i gs,q = m - i∧i≤m∧f 0 = .pointer (some ⟨g,0,none⟩)∧f 1 = .int .i64 ((m:Nat):Int)∧f 2 = .int .i64 ((most:Nat):Int)∧f 7 = .slice (some ⟨gO,0,none⟩) m m∧f 12 = .int .i64 ((m:Nat):Int)∧f 13 = .int .i64 ((i:Nat):Int)∧ZPart w' gO gs m i m (dgM (dgD n ns k most))∧TapeB w' g A n c (k + i)∧Ext w0 w')
    m ⟨0,fun _=>0,rfl,Nat.zero_le _,rfl,rfl,rfl,rfl,rfl,rfl,hP1,hB1,hE01⟩ ?_
   clear hP1 hE01 hB1 hB hE1 hs1 w1 hE0
   rintro q f w1 ⟨i,gs,rfl,hi,hf0,hf1,hf2,hf7,hf12,hf13,hP,hB,hE0⟩
   rw [ui hf0,ui hf1,ui hf2,ui hf7,ui hf12,ui hf13]
   clear hf0 hf1 hf2 hf7 hf12 hf13
   by_cases hlt:i < m
   · have hOl:=hP.outer.lt
     have hBl:g < w1.heap.size:=Blk.lt hB
     refine gh ?_
     refine R1_make sl_i64 (.inl rfl) rfl rfl (Nat.le_refl _) (by omega) (by omega) ?_
     intro w2 hB2 hE2 hs2
     have hr2:=rowW_made hB2
     obtain ⟨gr,hgr⟩ : ∃ g,g = w1.heap.size:=⟨_,rfl⟩
     rw [← hgr] at hr2 ⊢
     clear hB2
     refine gh ?_
     refine R1_storeRow (one_of rfl) (.inl rfl) rfl rfl (hP.outer.ext hE2) hlt ?_
     intro w3 ⟨_,hO3⟩ hC3 hk3 hs3
     have hP3:=hP.more hE2 (by omega) hr2 hC3 (hO3 rfl)
     have hE3:Ext w0 w3:=hC3.ext_of (hE0.trans hE2) (fun b hb=>by have:=hE0.size; omega)
     have hB3:TapeB w3 g A n c (k + i):=Blk.ch (Blk.ext hB hE2) hC3 (by omega)
     clear hO3 hC3 hk3 hr2 hE2 hs2 hP hB hE0
     refine gh ?_
     refine W_regDM (fun b=>b = g) [(0,3),(1,3),(2,3),(3,0),(4,3),(5,3),(6,3),(7,1),(8,3),(9,3),(10,2)] mixed (by kernel_rfl) (fun w4 hE4 _=>?_)
     have hx4:=(hP3.ext hE4).at (t:=i) (by omega) hlt
     rw [show setN gs i gr i = gr by simp [setN]] at hx4
     refine gh ?_
     refine R1_load1M (by decide) (one_of rfl) rfl hx4 (by show ¬ gO = g; omega) ?_
     refine gh ?_
     refine R1_callS (belowD_ok g A n c (k + i) most ns w0 w4 (hE3.trans hE4) hN hg (hB3.ext hE4) hmo (by omega)) ?_
     rintro _ w5 ⟨rfl,hB5,hC5,hk5⟩
     refine ⟨hC5,?_⟩
     have hP5:=(hP3.ext hE4).ch hC5 (by omega) (fun t ht=>by have:=(hP3.gt t ht); by_cases e:t = i; (simp only [setN,if_pos e]; omega); (simp only [setN,if_neg e] at this ⊢; omega))
     have hE5:Ext w0 w5:=hC5.ext_of (hE3.trans hE4) (fun b hb=>by omega)
     have hrow:=hP5.row i (by omega)
     rw [show setN gs i gr i = gr by simp [setN]] at hrow
     have hbm:=blw_lt (q:=n) (k:=k + i) (ns:=ns) hmo
     refine gh ?_
     refine R1_storeI (one_of rfl) (.inl rfl) rfl rfl hrow (by rw [arr_size]; omega) ?_
     intro w6 hB6 hC6 hs6
     have hP6:=hP5.put (t:=i) (by omega) (by rw [show setN gs i gr i = gr by simp [setN]]; exact RowW.set hB6) (by rw [show setN gs i gr i = gr by simp [setN]]; exact hC6)
     refine gh ?_
     refine ⟨_,?_,i + 1,setN gs i gr,rfl,by omega,rfl,rfl,rfl,rfl,rfl,rfl,hP6.congr fun t j ht hj=>?_,Blk.ch hB5 hC6 (by omega),hC6.ext_of hE5 (fun b hb=>by have:=hE5.size; omega)⟩
     · omega
     · unfold set2 dgM
       by_cases e:t = i
       · subst e
         by_cases e2:j = t
         · rw [if_pos ⟨rfl,e2⟩,if_pos e2.symm]
           rfl
         · rw [if_neg (fun h=>e2 h.2),if_neg (Ne.symm e2)]
           show (if t = t then (fun _=>(0:Int)) else _) j = 0
           rw [if_pos rfl]
       · rw [if_neg (fun h=>e h.1)]
         show (if t = i then (fun _=>(0:Int)) else fun j=>if t = j then dgD n ns k most t else 0) j = if t = j then dgD n ns k most t else 0
         rw [if_neg e]
   · refine gh ?_
     obtain rfl:i = m:=by omega
     exact ⟨gs,rfl,hP,hB,hE0⟩
 rintro f w2 ⟨gs,hf7,hP,hB2,hE2⟩
 rw [ui hf7]
 clear hf7
 refine gh ?_
 exact ret1 (v:=.slice _ _ _) rfl rfl ⟨gO,gs,rfl,by omega,hP.gt,hP.full,hB2,hE2⟩
def chnK (m:Nat) (fork:Bool) (i:Nat):Nat:=if fork = true∧i = m - 1∧3 < m then i - 2 else i - 1
def chnS (m:Nat) (fork:Bool) (i:Nat) (M:Nat→Nat→Int):Nat→Nat→Int :=
 if i = 0 then set2 (fun t=>if t = i then fun _=>0 else M t) i i 2
 else set2 (set2 (set2 (fun t=>if t = i then fun _=>0 else M t) i i 2) i (chnK m fork i) (-1)) (chnK m fork i) i (-1)
def chnF (m:Nat) (fork:Bool):Nat→Nat→Nat→Int
 | 0=>fun _ _=>0
 | i + 1=>chnS m fork i (chnF m fork i)
set_option maxHeartbeats 16000000 in
theorem chainD_ok (m:Nat) (fork:Bool) (w:World) (_hm1:1≤m) (hm:m≤16) :
 Meets Tryz.prog 49 #[.int .i64 ((m:Nat):Int),.bool fork] w fun v w'=>∃ gO gs,v = .slice (some ⟨gO,0,none⟩) m m∧w.heap.size≤gO∧(∀ i,i < m→gO < gs i)∧ZMat w' gO gs m m (chnF m fork m)∧(∀ i j,i < m→(chnF m fork m i j).natAbs≤2)∧Ext w w':=by
 refine fn_W (n:=57) Tryz.func49 rfl rfl (by kernel_rfl) (by simp) ?_
 refine gh ?_
 refine R1_make sl_si64 (.inl rfl) rfl rfl (Nat.le_refl _) (by omega) (by omega) ?_
 intro w1 hB1 hE1 hs1
 obtain ⟨gO,hgO⟩ : ∃ g,g = w.heap.size:=⟨_,rfl⟩
 rw [← hgO] at hB1 ⊢
 have hO1:Outer 30 w1 gO m 0 m (fun _=>0):=outer_made hB1
 have hP1:ZPart w1 gO (fun _=>0) m 0 m (fun _ _=>0):=⟨hO1,fun t ht=>absurd ht (by omega),fun t ht=>absurd ht (by omega),fun t t' ht=>absurd ht (by omega)⟩
 clear hB1 hO1
 refine gh ?_
 refine W_seqM (fun f w'=>∃ gs,f 5 = .slice (some ⟨gO,0,none⟩) m m∧ZPart w' gO gs m m m (chnF m fork m)∧(∀ i j,i < m→(chnF m fork m i j).natAbs≤2)∧Ext w w') ?_ ?_
 · refine gh ?_
   refine W_loop (fun q f w'=>∃ i gs M,q = m - i∧i≤m∧f 0 = .int .i64 ((m:Nat):Int)∧f 1 = .bool (fork)∧f 5 = .slice (some ⟨gO,0,none⟩) m m∧f 11 = .int .i64 ((m:Nat):Int)∧f 12 = .int .i64 ((i:Nat):Int)∧M = chnF m fork i∧ZPart w' gO gs m i m M∧(∀ t j,t < i→(M t j).natAbs≤2)∧Ext w w')
    m ⟨0,fun _=>0,fun _ _=>0,rfl,Nat.zero_le _,rfl,rfl,rfl,rfl,rfl,rfl,hP1,fun t j ht=>absurd ht (by omega),hE1⟩ ?_
   clear hP1 hE1 hs1 w1
   rintro q f w1 ⟨i,gs,M,rfl,hi,hf0,hf1,hf5,hf11,hf12,hMe,hP,hM,hE⟩
   rw [ui hf0,ui hf1,ui hf5,ui hf11,ui hf12]
   clear hf0 hf1 hf5 hf11 hf12
   by_cases hlt:i < m
   · have hOl:=hP.outer.lt
     refine gh ?_
     refine R1_make sl_i64 (.inl rfl) rfl rfl (Nat.le_refl _) (by omega) (by omega) ?_
     intro w2 hB2 hE2 hs2
     have hr2:=rowW_made hB2
     obtain ⟨gr,hgr⟩ : ∃ g,g = w1.heap.size:=⟨_,rfl⟩
     rw [← hgr] at hr2 ⊢
     clear hB2
     refine gh ?_
     refine R1_storeRow (one_of rfl) (.inl rfl) rfl rfl (hP.outer.ext hE2) hlt ?_
     intro w3 ⟨_,hO3⟩ hC3 hk3 hs3
     have hP3:=hP.more hE2 (by omega) hr2 hC3 (hO3 rfl)
     have hE3:Ext w w3:=hC3.ext_of (hE.trans hE2) (fun b hb=>by have:=hE.size; omega)
     have hwg:w.heap.size≤gr:=by have:=hE.size; omega
     clear hO3 hC3 hk3 hr2 hE2 hs2 hP hE
     have hx3:=hP3.at (t:=i) (by omega) hlt
     have hrow:=hP3.row i (by omega)
     rw [show setN gs i gr i = gr by simp [setN]] at hx3 hrow
     refine gh ?_
     refine R1_storeI (one_of rfl) (.inl rfl) rfl rfl hrow (by rw [arr_size]; omega) ?_
     intro w4 hB4 hC4 hs4
     have hP4:=hP3.put (t:=i) (by omega) (by rw [show setN gs i gr i = gr by simp [setN]]; exact RowW.set hB4) (by rw [show setN gs i gr i = gr by simp [setN]]; exact hC4)
     have hE4:Ext w w4:=hC4.ext_of hE3 (fun b hb=>by omega)
     have hM4:∀ t j,t < i + 1→(set2 (fun t=>if t = i then fun _=>0 else M t) i i 2 t j).natAbs≤2:=set2_le (fun t j ht=>by
      by_cases e:t = i
      · rw [if_pos e]; decide
      · rw [if_neg e]; exact hM t j (by omega)) (by decide)
     have hgs4:∀ t,t < i + 1→w.heap.size≤setN gs i gr t:=fun t ht=>by have:=hP4.gt t ht; omega
     obtain ⟨M4,hM4e⟩ : ∃ M4,M4 = set2 (fun t=>if t = i then fun _=>(0:Int) else M t) i i 2:=⟨_,rfl⟩
     rw [← hM4e] at hP4 hM4
     generalize setN gs i gr = gs4 at hP4 hgs4
     clear hP3 hx3 hrow hB4 hC4 hE3
     have hend:∀ (w5:World) (M5:Nat→Nat→Int) (f':Fr),M5 = chnF m fork (i + 1)→ZPart w5 gO gs4 m (i + 1) m M5→(∀ t j,t < i + 1→(M5 t j).natAbs≤2)→Ext w w5→f' 0 = .int .i64 ((m:Nat):Int)→f' 1 = .bool fork→f' 5 = .slice (some ⟨gO,0,none⟩) m m→f' 11 = .int .i64 ((m:Nat):Int)→f' 12 = .int .i64 ((i + 1:Nat):Int) →
      ∃ m',m' < m - i∧∃ i gs M,m' = m - i∧i≤m∧f' 0 = .int .i64 ((m:Nat):Int)∧f' 1 = .bool fork∧f' 5 = .slice (some ⟨gO,0,none⟩) m m∧f' 11 = .int .i64 ((m:Nat):Int)∧f' 12 = .int .i64 ((i:Nat):Int)∧M = chnF m fork i∧ZPart w5 gO gs m i m M∧(∀ t j,t < i→(M t j).natAbs≤2)∧Ext w w5 :=
      fun w5 M5 f' h0 h1 h2 h3 g0 g1 g5 g11 g12=>⟨m - (i + 1),by omega,i + 1,gs4,M5,rfl,by omega,g0,g1,g5,g11,g12,h0,h1,h2,h3⟩
     by_cases h0:i = 0
     · subst h0
       by_cases hm1:m = 1
       · subst hm1
         cases fork with
         | false =>
          refine gh ?_
          refine W_seq ?_
          refine gh ?_
          exact hend _ _ _ (by rw [hM4e,hMe]; show _ = chnS _ _ 0 _; unfold chnS; rw [if_pos rfl]) hP4 hM4 hE4 rfl rfl rfl rfl rfl
         | true =>
          refine gh ?_
          refine W_seq ?_
          refine gh ?_
          exact hend _ _ _ (by rw [hM4e,hMe]; show _ = chnS _ _ 0 _; unfold chnS; rw [if_pos rfl]) hP4 hM4 hE4 rfl rfl rfl rfl rfl
       · cases fork with
         | false =>
          refine gh ?_
          refine W_seq ?_
          refine gh ?_
          exact hend _ _ _ (by rw [hM4e,hMe]; show _ = chnS _ _ 0 _; unfold chnS; rw [if_pos rfl]) hP4 hM4 hE4 rfl rfl rfl rfl rfl
         | true =>
          refine gh ?_
          refine W_seq ?_
          refine gh ?_
          exact hend _ _ _ (by rw [hM4e,hMe]; show _ = chnS _ _ 0 _; unfold chnS; rw [if_pos rfl]) hP4 hM4 hE4 rfl rfl rfl rfl rfl
     refine gh ?_
     refine W_seqM (fun f w'=>∃ k,k < i∧k = chnK m fork i∧f 0 = .int .i64 ((m:Nat):Int)∧f 1 = .bool fork∧f 5 = .slice (some ⟨gO,0,none⟩) m m∧f 6 = .int .i64 ((i:Nat):Int)∧f 7 = .int .i64 ((k:Nat):Int)∧f 11 = .int .i64 ((m:Nat):Int)∧f 12 = .int .i64 ((i:Nat):Int)∧w4 = w') ?_ ?_
     · cases fork with
       | false =>
        refine gh ?_
        exact ⟨i - 1,by omega,by (unfold chnK; rw [if_neg (fun h=>by cases h.1)]),rfl,rfl,rfl,rfl,rfl,rfl,rfl,rfl⟩
       | true =>
        by_cases hl:i = m - 1
        · by_cases h3:3 < m
          · refine gh ?_
            exact ⟨i - 2,by omega,by (unfold chnK; rw [if_pos ⟨rfl,hl,h3⟩]),rfl,rfl,rfl,rfl,rfl,rfl,rfl,rfl⟩
          · refine gh ?_
            exact ⟨i - 1,by omega,by (unfold chnK; rw [if_neg (fun h=>h3 h.2.2)]),rfl,rfl,rfl,rfl,rfl,rfl,rfl,rfl⟩
        · refine gh ?_
          exact ⟨i - 1,by omega,by (unfold chnK; rw [if_neg (fun h=>hl h.2.1)]),rfl,rfl,rfl,rfl,rfl,rfl,rfl,rfl⟩
     rintro f _ ⟨k,hk,hke,hf0,hf1,hf5,hf6,hf7,hf11,hf12,rfl⟩
     rw [ui hf0,ui hf1,ui hf5,ui hf6,ui hf7,ui hf11,ui hf12]
     clear hf0 hf1 hf5 hf6 hf7 hf11 hf12
     refine gh ?_
     refine W_regD [(0,3),(1,3),(2,3),(3,0),(4,3),(5,3),(6,3),(7,3),(8,0),(9,3),(10,3),(11,2),(12,3),(13,2)] mixed (by kernel_rfl) (fun w5 hE5 _=>?_)
     have hx1:=(hP4.ext hE5).at (t:=i) (by omega) hlt
     have hx2:=(hP4.ext hE5).at (t:=k) (by omega) (by omega)
     refine gh ?_
     refine R1_storeI (one_of rfl) (.inl rfl) rfl rfl ((hP4.ext hE5).row i (by omega)) (by rw [arr_size]; omega) ?_
     intro w6 hB6 hC6 hs6
     have hP6:=(hP4.ext hE5).put (t:=i) (by omega) (RowW.set hB6) hC6
     have hM6:=set2_le (a:=i) (b:=k) (z:=-1) hM4 (by decide)
     have hg1:=hgs4 i (by omega)
     have hg2:=hgs4 k (by omega)
     refine gh ?_
     refine R1_storeI (one_of rfl) (.inl rfl) rfl rfl (hP6.row k (by omega)) (by rw [arr_size]; omega) ?_
     intro w7 hB7 hC7 hs7
     have hP7:=hP6.put (t:=k) (by omega) (RowW.set hB7) hC7
     have hM7:=set2_le (a:=k) (b:=i) (z:=-1) hM6 (by decide)
     refine gh ?_
     exact hend _ _ _ (by rw [hM4e,hMe,hke]; show _ = chnS m fork i _; unfold chnS; rw [if_neg h0]) hP7 hM7 (hC7.ext_of (hC6.ext_of (hE4.trans hE5) (fun b hb=>by omega)) (fun b hb=>by omega)) rfl rfl rfl rfl rfl
   · refine gh ?_
     obtain rfl:i = m:=by omega
     exact ⟨gs,rfl,hMe ▸ hP,hMe ▸ hM,hE⟩
 rintro f w2 ⟨gs,hf5,hP,hM,hE2⟩
 rw [ui hf5]
 clear hf5
 refine gh ?_
 exact ret1 (v:=.slice _ _ _) rfl rfl ⟨gO,gs,rfl,by omega,hP.gt,hP.full,hM,hE2⟩
abbrev GS:=(Nat→Nat→Int) × Nat
def genS (q:Nat) (ns:Nat→Int) (i j:Nat) (s:GS):GS:=(set2 (set2 s.1 i j ((tp q ns s.2).tmod 3)) j i (set2 s.1 i j ((tp q ns s.2).tmod 3) i j),s.2 + 1)
def genR (q:Nat) (ns:Nat→Int) (i:Nat) (s:GS):Nat→GS
 | 0=>s
 | j + 1=>genS q ns i j (genR q ns i s j)
def genF (q:Nat) (ns:Nat→Int) (s:GS):Nat→GS
 | 0=>s
 | i + 1=>genR q ns i (genF q ns s i) i
set_option maxHeartbeats 16000000 in
theorem generalD_ok (g:Nat) (A:Option Addr) (n c k m:Nat) (ns:Nat→Int) (w0 w:World) (hE0:Ext w0 w) (hN:Nums w0 A n ns) (hg:w0.heap.size≤g) (hB:TapeB w g A n c k) (hm1:1≤m) (hm:m≤16) :
 Meets Tryz.prog 48 #[.pointer (some ⟨g,0,none⟩),.int .i64 ((m:Nat):Int)] w fun v w'=>∃ k' gO gs M,(M,k') = genF n ns (dgM (dgD n ns k 6),k + m) m∧v = .slice (some ⟨gO,0,none⟩) m m∧w.heap.size≤gO∧(∀ i,i < m→gO < gs i)∧ZMat w' gO gs m m M∧(∀ i j,i < m→(M i j).natAbs≤100)∧TapeB w' g A n c k'∧Ext w0 w':=by
 refine fn_W (n:=45) Tryz.func48 rfl rfl (by kernel_rfl) (by simp) ?_
 have hgl:g < w.heap.size:=Blk.lt hB
 refine gh ?_
 refine R1_call2 (diagonalD_ok g A n c k m 6 ns w0 w hE0 hN hg hB hm1 hm (by decide) (by decide)) ?_
 rintro _ w1 ⟨gO,gs,rfl,hgO,hgs,hZ,hB1,hE1⟩
 have hws:=hE0.size
 have hM0:∀ i j,i < m→(dgM (dgD n ns k 6) i j).natAbs≤100:=fun i j hi=>by
  unfold dgM
  have:=dgD_lim (q:=n) (k:=k) (ns:=ns) (show 0 < 6 by decide) i
  split
  · omega
  · decide
 obtain ⟨s0,hs0⟩ : ∃ s0:GS,s0 = (dgM (dgD n ns k 6),k + m):=⟨_,rfl⟩
 rw [← hs0]
 generalize hM0e:dgM (dgD n ns k 6) = M0 at hZ hM0 hs0
 obtain ⟨k1,hk1⟩ : ∃ k1,k1 = k + m:=⟨_,rfl⟩
 rw [← hk1] at hB1 hs0
 clear hB hE0
 refine gh ?_
 refine W_seqM (fun f w'=>∃ k' M,(M,k') = genF n ns s0 m∧f 5 = .slice (some ⟨gO,0,none⟩) m m∧ZMat w' gO gs m m M∧(∀ i j,i < m→(M i j).natAbs≤100)∧TapeB w' g A n c k'∧Ext w0 w') ?_ ?_
 · refine gh ?_
   refine W_loop (fun q f w'=>∃ i k' M,(M,k') = genF n ns s0 i∧q = m - i∧i≤m∧f 0 = .pointer (some ⟨g,0,none⟩)∧f 5 = .slice (some ⟨gO,0,none⟩) m m∧f 12 = .int .i64 ((m:Nat):Int)∧f 13 = .int .i64 ((i:Nat):Int)∧ZMat w' gO gs m m M∧(∀ i j,i < m→(M i j).natAbs≤100)∧TapeB w' g A n c k'∧Ext w0 w')
    m ⟨0,k1,M0,hs0.symm,rfl,Nat.zero_le _,rfl,rfl,rfl,rfl,hZ,hM0,hB1,hE1⟩ ?_
   clear hZ hM0 hB1 hE1 w1
   rintro u f w1 ⟨i,k',M,hgn,rfl,hi,hf0,hf5,hf12,hf13,hZ,hM,hB,hE⟩
   rw [ui hf0,ui hf5,ui hf12,ui hf13]
   clear hf0 hf5 hf12 hf13
   by_cases hlt:i < m
   · refine gh ?_
     refine W_loop (fun u f w'=>∃ j k' M,(M,k') = genR n ns i (genF n ns s0 i) j∧u = i - j∧j≤i∧f 0 = .pointer (some ⟨g,0,none⟩)∧f 5 = .slice (some ⟨gO,0,none⟩) m m∧f 12 = .int .i64 ((m:Nat):Int)∧f 13 = .int .i64 ((i:Nat):Int)∧f 6 = .int .i64 ((i:Nat):Int)∧f 7 = .int .i64 ((j:Nat):Int)∧ZMat w' gO gs m m M∧(∀ i j,i < m→(M i j).natAbs≤100)∧TapeB w' g A n c k'∧Ext w0 w')
      i ⟨0,k',M,hgn,rfl,Nat.zero_le _,rfl,rfl,rfl,rfl,rfl,rfl,hZ,hM,hB,hE⟩ ?_
     clear hZ hM hB hE hgn w1
     rintro u f w1 ⟨j,k',M,hgn,rfl,hj,hf0,hf5,hf12,hf13,hf6,hf7,hZ,hM,hB,hE⟩
     rw [ui hf0,ui hf5,ui hf12,ui hf13,ui hf6,ui hf7]
     clear hf0 hf5 hf12 hf13 hf6 hf7
     refine W_seq ?_
     by_cases hjl:j < i
     · have hgi:=hgs i hlt
       have hgj:=hgs j (by omega)
       refine gh ?_
       refine W_seqDM (fun b=>b = g) [(0,3),(1,3),(2,3),(3,0),(4,3),(5,3),(6,1),(7,3),(8,3),(9,2)] mixed (by kernel_rfl) (fun w4 hE4 _=>?_)
       have hx4:=(hZ.ext hE4).at hlt
       refine gh ?_
       refine R1_load1M (by decide) (one_of rfl) rfl hx4 (by show ¬ gO = g; omega) ?_
       refine gh ?_
       refine R1_callS (next_ok g A n c k' ns w0 w4 (hE.trans hE4) hN hg (hB.ext hE4)) ?_
       rintro _ w5 ⟨rfl,hB5,hC5,hk5⟩
       refine ⟨hC5,?_⟩
       have hZ5:=(hZ.ext hE4).ch hC5 (by omega) (fun t ht=>by have:=hgs t ht; omega)
       have hE5:Ext w0 w5:=hC5.ext_of (hE.trans hE4) (fun b hb=>by omega)
       obtain ⟨z,hz⟩ : ∃ z,z = (tp n ns k').tmod 3:=⟨_,rfl⟩
       have hz2:z.natAbs≤100:=by
        have h1:=Int.tmod_lt_of_pos (tp n ns k') (show (0:Int) < 3 by decide)
        have h2:=Int.tmod_lt_of_pos (-(tp n ns k')) (show (0:Int) < 3 by decide)
        rw [Int.neg_tmod] at h2
        omega
       refine gh ?_
       refine R1_rem_z rfl rfl (by decide) ?_
       rw [show (tp n ns k').tmod 3 = z from hz.symm]
       refine gh ?_
       refine R1_storeI (one_of rfl) (.inl rfl) rfl rfl (hZ5.row i hlt) (by rw [arr_size]; omega) ?_
       intro w6 hB6 hC6 hs6
       have hZ6:=hZ5.put hlt (RowW.set hB6) hC6
       have hM6:=set2_le (a:=i) (b:=j) (z:=z) hM hz2
       have hB6':TapeB w6 g A n c (k' + 1):=Blk.ch hB5 hC6 (by omega)
       have hE6:Ext w0 w6:=hC6.ext_of hE5 (fun b hb=>by omega)
       refine gh ?_
       refine W_regD [(0,3),(1,3),(2,3),(3,0),(4,3),(5,3),(6,3),(7,3),(8,0),(9,3),(10,3),(11,0),(12,3),(13,2)] mixed (by kernel_rfl) (fun w7 hE7 _=>?_)
       have hx1:=(hZ6.ext hE7).at hlt
       have hx2:=(hZ6.ext hE7).at (i:=j) (by omega)
       have hx3:=((hZ6.ext hE7).row i hlt).at (j:=j) (by omega)
       refine gh ?_
       refine R1_storeI (one_of rfl) (.inl rfl) rfl rfl ((hZ6.ext hE7).row j (by omega)) (by rw [arr_size]; omega) ?_
       intro w8 hB8 hC8 hs8
       have hZ8:=(hZ6.ext hE7).put (i:=j) (by omega) (RowW.set hB8) hC8
       have hM8:=set2_le (a:=j) (b:=i) hM6 (hM6 i j hlt)
       refine gh ?_
       refine ⟨_,?_,j + 1,k' + 1,_,?_,rfl,by omega,rfl,rfl,rfl,rfl,rfl,rfl,hZ8,hM8,Blk.ch (Blk.ext hB6' hE7) hC8 (by omega),hC8.ext_of (hE6.trans hE7) (fun b hb=>by omega)⟩
       · omega
       · show _ = genS n ns i j _
         rw [← hgn,hz]; rfl
     · refine gh ?_
       obtain rfl:j = i:=by omega
       refine ⟨_,?_,j + 1,k',M,hgn,rfl,by omega,rfl,rfl,rfl,rfl,hZ,hM,hB,hE⟩
       omega
   · refine gh ?_
     obtain rfl:i = m:=by omega
     exact ⟨k',M,hgn,rfl,hZ,hM,hB,hE⟩
 rintro f w2 ⟨k',M,hgn,hf5,hZ,hM,hB,hE⟩
 rw [ui hf5]
 clear hf5
 refine gh ?_
 exact ret1 (v:=.slice _ _ _) rfl rfl ⟨k',gO,gs,M,hgn,rfl,hgO,hgs,hZ,hM,hB,hE⟩
end Go.Proofs.YtmkbpjoihdfpkaaGreat
namespace Go.Proofs.YtmkbpjoihdfpkaaGreat
open Go Go.Eng Go.Num Go.Proofs
open Go.Det (gr bm det Sy PM Red)
def grmF (kd q:Nat) (ns:Nat→Int) (n:Nat):GS :=
 if kd % 8 < 4 then genF q ns (dgM (dgD q ns 0 6),0 + n) n
 else if kd % 8 = 4 then (set2 (chnF n false n) 0 0 (chnF n false n 0 0 + ((blw q ns 0 3:Nat):Int)),0 + 1)
 else if kd % 8 = 5 then (set2 (chnF n true n) (n - 1) (n - 1) (chnF n true n (n - 1) (n - 1) + ((blw q ns 0 2:Nat):Int)),0 + 1)
 else if kd % 8 = 6 then (dgM (dgD q ns 0 9),0 + n)
 else (dgM (dgD q ns 0 1),0 + n)
open Classical in
noncomputable def grmM (kd q:Nat) (ns:Nat→Int) (n:Nat):Nat→Nat→Int :=
 if valE n (fun _=>n) (grmF kd q ns n).1 = 0∧det n (grmF kd q ns n).1≤10000 then (grmF kd q ns n).1 else dgM (dgD q ns (grmF kd q ns n).2 2)
def RGmD (w:World) (n:Nat) (M:Nat→Nat→Int) (v:Value) (w':World):Prop :=
 Ext w w'∧∃ gO gs,v = .slice (some ⟨gO,0,none⟩) n n∧w.heap.size≤gO∧(∀ i,i < n→gO < gs i)∧ZMat w' gO gs n n M∧valE n (fun _=>n) M = 0∧det n M≤10000∧∀ i j,i < n→(M i j).natAbs≤1000
set_option maxHeartbeats 16000000 in
theorem latGramD_ok (v:Value) (dm kd q m most:Nat) (ns ms:Nat→Int) (w:World) (h:LatV w v dm kd q ns m ms) (hmo:0 < most) (hmo8:most≤8) :
 Meets Tryz.prog 18 #[v,.int .i64 ((most:Nat):Int)] w (RGmD w (1 + dm % most) (grmM kd q ns (1 + dm % most))):=by
 obtain ⟨A,cap,A',cap',rfl,hd,hk,hc,hc',hN,hN'⟩:=h
 refine fn_W (n:=74) Tryz.func18 rfl rfl (by kernel_rfl) (by simp) ?_
 have hdm:=Nat.mod_lt dm hmo
 obtain ⟨n,hn⟩ : ∃ n,n = 1 + dm % most:=⟨_,rfl⟩
 rw [← hn]
 have hn1:1≤n:=by omega
 have hn8:n≤8:=by omega
 refine gh ?_
 refine R1_box (v:=.agg _) (.inl rfl) rfl ?_
 intro w1 hB1 hE1 hs1
 have hX1:Blk w1 w.heap.size 27 #[.int .u8 ((dm:Nat):Int),.int .u8 ((kd:Nat):Int),.slice A q cap,.slice A' m cap']:=hB1
 obtain ⟨gX,hgX⟩ : ∃ g,g = w.heap.size:=⟨_,rfl⟩
 rw [← hgX] at hX1 ⊢
 clear hB1
 have c2:=blk42 hX1
 refine gh ?_
 refine R1_fieldAddr fa_Lat2 rfl ?_
 refine gh ?_
 refine R1_bldTape rfl ?_
 refine gh ?_
 refine R1_box (v:=.agg _) (.inl rfl) rfl ?_
 intro w2 hB2 hE2 hs2
 have hT2:TapeB w2 w1.heap.size A q cap 0:=by unfold TapeB; rw [Nat.zero_min]; exact hB2
 obtain ⟨gT,hgT⟩ : ∃ g,g = w1.heap.size:=⟨_,rfl⟩
 rw [← hgT] at hT2 ⊢
 have hX2:=hX1.ext hE2
 have hE02:=hE1.trans hE2
 have hgw:w.heap.size≤gT:=by omega
 clear hB2 c2 hX1
 have c0:=blk40 hX2
 have c1:=blk41 hX2
 refine gh ?_
 refine R1_fieldAddr fa_Lat0 rfl ?_
 refine gh ?_
 refine R1_rem_i64 rfl rfl hmo ?_
 refine gh ?_
 rw [show (OfNat.ofNat 1 + dm % most:Nat) = n from hn.symm]
 obtain ⟨kk,hkk⟩ : ∃ kk,kk = kd % 8:=⟨_,rfl⟩
 have hkk8:kk < 8:=by omega
 refine gh ?_
 refine W_seqM (fun f w'=>∃ k' gO gs M,(M,k') = grmF kd q ns n∧f 5 = .pointer (some ⟨gT,0,none⟩)∧f 6 = .int .i64 ((n:Nat):Int)∧f 7 = .slice (some ⟨gO,0,none⟩) n n∧w2.heap.size≤gO∧(∀ i,i < n→gO < gs i)∧ZMat w' gO gs n n M∧(∀ i j,i < n→(M i j).natAbs≤1000)∧TapeB w' gT A q cap k'∧Ext w w') ?_ ?_
 · refine gh ?_
   refine R1_fieldAddr fa_Lat1 rfl ?_
   refine gh ?_
   refine R1_rem_u8L (b:=8) rfl rfl (by decide) ?_
   rw [show kd % 8 = kk from hkk.symm]
   have hgF:∀ s:GS,(if kk < 4 then genF q ns (dgM (dgD q ns 0 6),0 + n) n else if kk = 4 then (set2 (chnF n false n) 0 0 (chnF n false n 0 0 + ((blw q ns 0 3:Nat):Int)),0 + 1) else if kk = 5 then (set2 (chnF n true n) (n - 1) (n - 1) (chnF n true n (n - 1) (n - 1) + ((blw q ns 0 2:Nat):Int)),0 + 1) else if kk = 6 then (dgM (dgD q ns 0 9),0 + n) else (dgM (dgD q ns 0 1),0 + n)) = s→s = grmF kd q ns n:=fun s h=>by unfold grmF; rw [← hkk]; exact h.symm
   clear hkk
   refine gh ?_
   refine W_seq ?_
   refine gh ?_
   have:kk = 0 ∨ kk = 1 ∨ kk = 2 ∨ kk = 3 ∨ kk = 4 ∨ kk = 5 ∨ kk = 6 ∨ kk = 7:=by omega
   clear hkk8 c0 c1 hX2
   rcases this with rfl | rfl | rfl | rfl | rfl | rfl | rfl | rfl
   · refine R1_eql_u8_c rfl ?_
     refine gh ?_
     refine R1_call2 (generalD_ok gT A q cap 0 n ns w w2 hE02 hN hgw hT2 hn1 (by omega)) ?_
     rintro _ w3 ⟨k',gO,gs,M,hgn,rfl,hgO,hgs,hZ,hM,hT3,hE3⟩
     refine gh ?_
     exact ⟨k',gO,gs,M,hgF _ (by rw [hgn]; rfl),rfl,rfl,rfl,hgO,hgs,hZ,fun i j hi=>by (have:=hM i j hi; omega),hT3,hE3⟩
   · refine R1_eql_u8_c rfl ?_
     refine gh ?_
     refine R1_eql_u8_c rfl ?_
     refine gh ?_
     refine R1_call2 (generalD_ok gT A q cap 0 n ns w w2 hE02 hN hgw hT2 hn1 (by omega)) ?_
     rintro _ w3 ⟨k',gO,gs,M,hgn,rfl,hgO,hgs,hZ,hM,hT3,hE3⟩
     refine gh ?_
     exact ⟨k',gO,gs,M,hgF _ (by rw [hgn]; rfl),rfl,rfl,rfl,hgO,hgs,hZ,fun i j hi=>by (have:=hM i j hi; omega),hT3,hE3⟩
   · refine R1_eql_u8_c rfl ?_
     refine gh ?_
     refine R1_eql_u8_c rfl ?_
     refine gh ?_
     refine R1_eql_u8_c rfl ?_
     refine gh ?_
     refine R1_call2 (generalD_ok gT A q cap 0 n ns w w2 hE02 hN hgw hT2 hn1 (by omega)) ?_
     rintro _ w3 ⟨k',gO,gs,M,hgn,rfl,hgO,hgs,hZ,hM,hT3,hE3⟩
     refine gh ?_
     exact ⟨k',gO,gs,M,hgF _ (by rw [hgn]; rfl),rfl,rfl,rfl,hgO,hgs,hZ,fun i j hi=>by (have:=hM i j hi; omega),hT3,hE3⟩
   · refine R1_eql_u8_c rfl ?_
     refine gh ?_
     refine R1_eql_u8_c rfl ?_
     refine gh ?_
     refine R1_eql_u8_c rfl ?_
     refine gh ?_
     refine R1_eql_u8_c rfl ?_
     refine gh ?_
     refine R1_call2 (generalD_ok gT A q cap 0 n ns w w2 hE02 hN hgw hT2 hn1 (by omega)) ?_
     rintro _ w3 ⟨k',gO,gs,M,hgn,rfl,hgO,hgs,hZ,hM,hT3,hE3⟩
     refine gh ?_
     exact ⟨k',gO,gs,M,hgF _ (by rw [hgn]; rfl),rfl,rfl,rfl,hgO,hgs,hZ,fun i j hi=>by (have:=hM i j hi; omega),hT3,hE3⟩
   · refine R1_eql_u8_c rfl ?_
     refine gh ?_
     refine R1_eql_u8_c rfl ?_
     refine gh ?_
     refine R1_eql_u8_c rfl ?_
     refine gh ?_
     refine R1_eql_u8_c rfl ?_
     refine gh ?_
     refine R1_eql_u8_c rfl ?_
     refine gh ?_
     refine R1_call2 (chainD_ok n false w2 hn1 (by omega)) ?_
     rintro _ w3 ⟨gO,gs,rfl,hgO,hgs,hZ,hM,hE3⟩
     obtain ⟨M,hMe⟩ : ∃ M,M = chnF n false n:=⟨_,rfl⟩
     rw [← hMe] at hZ hM
     have hT3:TapeB w3 gT A q cap 0:=Blk.ext hT2 hE3
     have hgTl:gT < w2.heap.size:=Blk.lt hT2
     refine gh ?_
     refine W_regDM (fun b=>b = gT) [(0,3),(1,3),(2,0),(3,3),(4,0),(5,3),(6,1),(7,3),(8,3),(9,2)] mixed (by kernel_rfl) (fun w4 hE4 _=>?_)
     have hi0:0 < n:=by omega
     have hx4:=(hZ.ext hE4).at hi0
     have hy4:=((hZ.ext hE4).row _ hi0).at hi0
     have hg0:=hgs _ hi0
     have hm0:=hM (0) (0) hi0
     refine gh ?_
     refine R1_load1M (by decide) (one_of rfl) rfl hx4 (by show ¬ gO = gT; omega) ?_
     refine gh ?_
     refine R1_load1M (by decide) (one_of rfl) rfl hy4 (by show ¬ gs (0) = gT; omega) ?_
     refine gh ?_
     refine R1_callS (belowD_ok gT A q cap 0 3 ns w w4 (hE02.trans (hE3.trans hE4)) hN hgw (hT3.ext hE4) (by decide) (by decide)) ?_
     rintro _ w5 ⟨rfl,hB5,hC5,hk5⟩
     refine ⟨hC5,?_⟩
     have hbm:=blw_lt (q:=q) (k:=0) (ns:=ns) (show 0 < 3 by decide)
     have hZ5:=(hZ.ext hE4).ch hC5 (by omega) (fun t ht=>by (have:=hgs t ht; omega))
     have hE5:Ext w w5:=hC5.ext_of (hE02.trans (hE3.trans hE4)) (fun b hb=>by omega)
     refine gh ?_
     refine R1_storeI (one_of rfl) (.inl rfl) rfl rfl (hZ5.row _ hi0) (by rw [arr_size]; omega) ?_
     intro w6 hB6 hC6 hs6
     have hZ6:=hZ5.put hi0 (RowW.set hB6) hC6
     have hsw:=hE02.size
     have hM6:=set2_le (M:=M) (N:=1000) (a:=0) (b:=0) (z:=M (0) (0) + ((blw q ns 0 3:Nat):Int)) (fun i j hi=>by (have:=hM i j hi; omega)) (by omega)
     refine gh ?_
     exact ⟨0 + 1,gO,gs,_,hgF _ (by rw [hMe]; rfl),rfl,rfl,rfl,hgO,hgs,hZ6,hM6,Blk.ch hB5 hC6 (by omega),hC6.ext_of hE5 (fun b hb=>by omega)⟩
   · refine R1_eql_u8_c rfl ?_
     refine gh ?_
     refine R1_eql_u8_c rfl ?_
     refine gh ?_
     refine R1_eql_u8_c rfl ?_
     refine gh ?_
     refine R1_eql_u8_c rfl ?_
     refine gh ?_
     refine R1_eql_u8_c rfl ?_
     refine gh ?_
     refine R1_eql_u8_c rfl ?_
     refine gh ?_
     refine R1_call2 (chainD_ok n true w2 hn1 (by omega)) ?_
     rintro _ w3 ⟨gO,gs,rfl,hgO,hgs,hZ,hM,hE3⟩
     obtain ⟨M,hMe⟩ : ∃ M,M = chnF n true n:=⟨_,rfl⟩
     rw [← hMe] at hZ hM
     have hT3:TapeB w3 gT A q cap 0:=Blk.ext hT2 hE3
     have hgTl:gT < w2.heap.size:=Blk.lt hT2
     refine gh ?_
     refine W_regDM (fun b=>b = gT) [(0,3),(1,3),(2,3),(3,3),(4,0),(5,3),(6,3),(7,3),(8,0),(9,3),(10,1),(11,3),(12,3),(13,2)] mixed (by kernel_rfl) (fun w4 hE4 _=>?_)
     have hi0:n - 1 < n:=by omega
     have hx4:=(hZ.ext hE4).at hi0
     have hy4:=((hZ.ext hE4).row _ hi0).at hi0
     have hg0:=hgs _ hi0
     have hm0:=hM (n - 1) (n - 1) hi0
     refine gh ?_
     refine R1_load1M (by decide) (one_of rfl) rfl hx4 (by show ¬ gO = gT; omega) ?_
     refine gh ?_
     refine R1_load1M (by decide) (one_of rfl) rfl hy4 (by show ¬ gs (n - 1) = gT; omega) ?_
     refine gh ?_
     refine R1_callS (belowD_ok gT A q cap 0 2 ns w w4 (hE02.trans (hE3.trans hE4)) hN hgw (hT3.ext hE4) (by decide) (by decide)) ?_
     rintro _ w5 ⟨rfl,hB5,hC5,hk5⟩
     refine ⟨hC5,?_⟩
     have hbm:=blw_lt (q:=q) (k:=0) (ns:=ns) (show 0 < 2 by decide)
     have hZ5:=(hZ.ext hE4).ch hC5 (by omega) (fun t ht=>by (have:=hgs t ht; omega))
     have hE5:Ext w w5:=hC5.ext_of (hE02.trans (hE3.trans hE4)) (fun b hb=>by omega)
     refine gh ?_
     refine R1_storeI (one_of rfl) (.inl rfl) rfl rfl (hZ5.row _ hi0) (by rw [arr_size]; omega) ?_
     intro w6 hB6 hC6 hs6
     have hZ6:=hZ5.put hi0 (RowW.set hB6) hC6
     have hsw:=hE02.size
     have hM6:=set2_le (M:=M) (N:=1000) (a:=n - 1) (b:=n - 1) (z:=M (n - 1) (n - 1) + ((blw q ns 0 2:Nat):Int)) (fun i j hi=>by (have:=hM i j hi; omega)) (by omega)
     refine gh ?_
     exact ⟨0 + 1,gO,gs,_,hgF _ (by rw [hMe]; rfl),rfl,rfl,rfl,hgO,hgs,hZ6,hM6,Blk.ch hB5 hC6 (by omega),hC6.ext_of hE5 (fun b hb=>by omega)⟩
   · refine R1_eql_u8_c rfl ?_
     refine gh ?_
     refine R1_eql_u8_c rfl ?_
     refine gh ?_
     refine R1_eql_u8_c rfl ?_
     refine gh ?_
     refine R1_eql_u8_c rfl ?_
     refine gh ?_
     refine R1_eql_u8_c rfl ?_
     refine gh ?_
     refine R1_eql_u8_c rfl ?_
     refine gh ?_
     refine R1_eql_u8_c rfl ?_
     refine gh ?_
     refine R1_call2 (diagonalD_ok gT A q cap 0 n 9 ns w w2 hE02 hN hgw hT2 hn1 (by omega) (by decide) (by decide)) ?_
     rintro _ w3 ⟨gO,gs,rfl,hgO,hgs,hZ,hT3,hE3⟩
     refine gh ?_
     exact ⟨0 + n,gO,gs,_,hgF _ rfl,rfl,rfl,rfl,hgO,hgs,hZ,fun i j hi=>by (have:=dgD_lim (q:=q) (k:=0) (ns:=ns) (show 0 < 9 by decide) i; unfold dgM; split <;> omega),hT3,hE3⟩
   · refine R1_eql_u8_c rfl ?_
     refine gh ?_
     refine R1_eql_u8_c rfl ?_
     refine gh ?_
     refine R1_eql_u8_c rfl ?_
     refine gh ?_
     refine R1_eql_u8_c rfl ?_
     refine gh ?_
     refine R1_eql_u8_c rfl ?_
     refine gh ?_
     refine R1_eql_u8_c rfl ?_
     refine gh ?_
     refine R1_eql_u8_c rfl ?_
     refine gh ?_
     refine R1_call2 (diagonalD_ok gT A q cap 0 n 1 ns w w2 hE02 hN hgw hT2 hn1 (by omega) (by decide) (by decide)) ?_
     rintro _ w3 ⟨gO,gs,rfl,hgO,hgs,hZ,hT3,hE3⟩
     refine gh ?_
     exact ⟨0 + n,gO,gs,_,hgF _ rfl,rfl,rfl,rfl,hgO,hgs,hZ,fun i j hi=>by (have:=dgD_lim (q:=q) (k:=0) (ns:=ns) (show 0 < 1 by decide) i; unfold dgM; split <;> omega),hT3,hE3⟩
 rintro f w3 ⟨k',gO,gs,M,hgn,hf5,hf6,hf7,hgO,hgs,hZ,hM,hT,hE⟩
 rw [ui hf5,ui hf6,ui hf7]
 clear hf5 hf6 hf7
 have hsz:=hE02.size
 refine W_seq ?_
 refine gh ?_
 refine R1_call2 (good_ok _ n M w3 (hZ.read (fun i j hi hj=>by have:=hM i j hi; omega) (by omega) (by omega)) hn1 (by omega)) ?_
 rintro _ w4 ⟨hE4,b,rfl,hb⟩
 cases b with
 | true =>
  refine gh ?_
  have hMM:grmM kd q ns n = M:=by
   unfold grmM
   rw [← hgn]
   exact if_pos (hb.1 rfl)
  rw [hMM]
  exact ret1 (v:=.slice _ _ _) rfl rfl ⟨hE.trans hE4,gO,gs,rfl,by omega,hgs,hZ.ext hE4,(hb.1 rfl).1,(hb.1 rfl).2,hM⟩
 | false =>
  have hT4:TapeB w4 gT A q cap k':=Blk.ext hT hE4
  refine gh ?_
  refine R1_call2 (diagonalD_ok gT A q cap k' n 2 ns w w4 (hE.trans hE4) hN hgw hT4 hn1 (by omega) (by decide) (by decide)) ?_
  rintro _ w5 ⟨gO5,gs5,rfl,hgO5,hgs5,hZ5,hT5,hE5⟩
  have hD:∀ i,i < n→1≤dgD q ns k' 2 i∧dgD q ns k' 2 i≤2:=fun i _=>by
   have:=dgD_lim (q:=q) (k:=k') (ns:=ns) (show 0 < 2 by decide) i
   omega
  have hs4:=(hE.trans hE4).size
  have hdg:=dg_ok hn1 hn8 hD
  refine gh ?_
  have hMM:grmM kd q ns n = dgM (dgD q ns k' 2):=by
   unfold grmM
   rw [← hgn]
   exact if_neg (fun h=>by cases hb.2 h)
  rw [hMM]
  exact ret1 (v:=.slice _ _ _) rfl rfl ⟨hE5,gO5,gs5,rfl,by omega,hgs5,hZ5,hdg.1,hdg.2,fun i j hi=>by (have:=hD i hi; unfold dgM; split <;> omega)⟩
def uniF (m:Nat) (ns:Nat→Int) (n:Nat):Nat→GS
 | 0=>(Go.Det.one,0)
 | k + 1=>if min (uniF m ns n k).2 m < m then (uop (blw m ns (uniF m ns n k).2 n) (blw m ns ((uniF m ns n k).2 + 1) n) ((tp m ns ((uniF m ns n k).2 + 1 + 1)).tmod 3) (uniF m ns n k).1,(uniF m ns n k).2 + 1 + 1 + 1) else uniF m ns n k
theorem uniF_stop {m n k:Nat} {ns:Nat→Int} (h:¬ min (uniF m ns n k).2 m < m):∀ d,uniF m ns n (k + d) = uniF m ns n k
 | 0=>rfl
 | d + 1=>by
  have ih:=uniF_stop h d
  show (if min (uniF m ns n (k + d)).2 m < m then _ else uniF m ns n (k + d)) = _
  rw [ih,if_neg h]
def RUd (w:World) (n:Nat) (U:Nat→Nat→Int) (v:Value) (w':World):Prop :=
 Ext w w'∧∃ gO gs,v = .slice (some ⟨gO,0,none⟩) n n∧w.heap.size≤gO∧(∀ i,i < n→w.heap.size≤gs i)∧ZMat w' gO gs n n U∧(∀ i j,i < n→j < n→(U i j).natAbs≤531441)∧(Go.Det.det n U = 1 ∨ Go.Det.det n U = -1)
set_option maxHeartbeats 16000000 in
theorem unimodularD_ok (A:Option Addr) (m cap n:Nat) (ns:Nat→Int) (w:World) (hN:Nums w A m ns) (hn1:1≤n) (hn:n≤16) :
 Meets Tryz.prog 30 #[.slice A m cap,.int .i64 ((n:Nat):Int)] w (RUd w n (uniF m ns n 12).1):=by
 refine fn_W (n:=145) Tryz.func30 rfl rfl (by kernel_rfl) (by simp) ?_
 refine gh ?_
 refine R1_make sl_si64 (.inl rfl) rfl rfl (Nat.le_refl _) (by omega) (by omega) ?_
 intro w1 hB1 hE1 hs1
 obtain ⟨gO,hgO⟩ : ∃ g,g = w.heap.size:=⟨_,rfl⟩
 rw [← hgO] at hB1 ⊢
 have hO1:Outer 30 w1 gO n 0 n (fun _=>0):=outer_made hB1
 clear hB1
 refine gh ?_
 refine W_seqM (fun f w'=>∃ gs,f 0 = .slice A m cap∧f 1 = .int .i64 ((n:Nat):Int)∧f 5 = .slice (some ⟨gO,0,none⟩) n n∧Ext w w'∧ZMat w' gO gs n n Go.Det.one∧∀ k,k < n→gO < gs k) ?_ ?_
 · refine gh ?_
   refine W_loop (fun q f w'=>∃ i gs,q = n - i∧i≤n∧f 0 = .slice A m cap∧f 1 = .int .i64 ((n:Nat):Int)∧f 5 = .slice (some ⟨gO,0,none⟩) n n∧f 16 = .int .i64 ((n:Nat):Int)∧f 17 = .int .i64 ((i:Nat):Int)∧Ext w w'∧Outer 30 w' gO n i n gs∧(∀ k,k < i→RowW w' (gs k) n (Go.Det.one k)∧gO < gs k)∧(∀ k k',k < i→k' < i→gs k = gs k'→k = k'))
    n ⟨0,fun _=>0,rfl,Nat.zero_le _,rfl,rfl,rfl,rfl,rfl,hE1,hO1,fun k hk=>absurd hk (by omega),fun k k' hk=>absurd hk (by omega)⟩ ?_
   clear hE1 hO1 hs1 w1
   rintro q f w1 ⟨i,gs,rfl,hi,hf0,hf1,hf5,hf16,hf17,hE,hO,hrow,hinj⟩
   rw [ui hf0,ui hf1,ui hf5,ui hf16,ui hf17]
   clear hf0 hf1 hf5 hf16 hf17
   by_cases hlt:i < n
   · have hOl:=hO.lt
     refine gh ?_
     refine R1_make sl_i64 (.inl rfl) rfl rfl (Nat.le_refl _) (by omega) (by omega) ?_
     intro w2 hB2 hE2 hs2
     have hr2:=rowW_made hB2
     obtain ⟨g,hg⟩ : ∃ g,g = w1.heap.size:=⟨_,rfl⟩
     rw [← hg] at hr2 ⊢
     clear hB2
     refine gh ?_
     refine R1_storeRow (one_of rfl) (.inl rfl) rfl rfl (hO.ext hE2) hlt ?_
     intro w3 ⟨_,hO3⟩ hC3 hk3 hs3
     have hO3:=hO3 rfl
     have hx3:=hO3.at (k:=i) (by omega) hlt
     rw [show setN gs i g i = g by simp [setN]] at hx3
     have hr3:RowW w3 g n _:=Blk.ch hr2 hC3 (by omega)
     have hE3:Ext w w3:=hC3.ext_of (hE.trans hE2) (fun b hb=>by omega)
     refine gh ?_
     refine R1_storeI (one_of rfl) (.inl rfl) rfl rfl hr3 (by rw [arr_size]; omega) ?_
     intro w4 hB4 hC4 hs4
     have hr4:=RowW.set hB4
     have hgO':gO < g:=by omega
     refine gh ?_
     refine ⟨_,?_,i + 1,setN gs i g,rfl,by omega,rfl,rfl,rfl,rfl,rfl,hC4.ext_of hE3 (fun b hb=>by omega),hO3.kp hC4 (by omega),fun k hk=>?_,fun k k' hk hk' e=>?_⟩
     · omega
     · by_cases e:k = i
       · subst e
         simp only [setN,if_true]
         refine ⟨hr4.congr fun b hb=>?_,hgO'⟩
         unfold setZ Go.Det.one
         by_cases e:b = k
         · rw [if_pos e,if_pos e.symm]
         · rw [if_neg e,if_neg (Ne.symm e)]
       · simp only [setN,if_neg e]
         obtain ⟨h1,h2⟩:=hrow k (by omega)
         have hl:gs k < w1.heap.size:=Blk.lt h1
         exact ⟨Blk.ch (Blk.ch (Blk.ext h1 hE2) hC3 (by omega)) hC4 (by omega),h2⟩
     · have hl:∀ k,k < i→gs k < w1.heap.size:=fun k hk=>Blk.lt (hrow k hk).1
       simp only [setN] at e
       split at e <;> split at e
       · omega
       · have:=hl k' (by omega); omega
       · have:=hl k (by omega); omega
       · exact hinj k k' (by omega) (by omega) e
   · refine gh ?_
     obtain rfl:i = n:=by omega
     exact ⟨gs,rfl,rfl,rfl,hE,⟨hO.full,fun k hk=>(hrow k hk).1,fun k hk=>by have:=(hrow k hk).2; omega,hinj⟩,fun k hk=>(hrow k hk).2⟩
 clear hE1 hO1 hs1 w1
 rintro f w1 ⟨gs,hf0,hf1,hf5,hE,hZ,hgs⟩
 rw [ui hf0,ui hf1,ui hf5]
 clear hf0 hf1 hf5
 refine gh ?_
 refine R1_bldTape rfl ?_
 refine gh ?_
 refine R1_box (v:=.agg _) (.inl rfl) rfl ?_
 intro w2 hB2 hE2 hs2
 have hT2:TapeB w2 w1.heap.size A m cap 0:=by unfold TapeB; rw [Nat.zero_min]; exact hB2
 obtain ⟨gT,hgT⟩ : ∃ g,g = w1.heap.size:=⟨_,rfl⟩
 rw [← hgT] at hT2 ⊢
 have hZ2:=hZ.ext hE2
 have hsep:gO ≠ gT∧(∀ k,k < n→gs k ≠ gT):=⟨by have:=hZ.outer.lt; omega,fun k hk=>by have:gs k < w1.heap.size:=Blk.lt (hZ.row k hk); omega⟩
 have hEs:=hE.size
 have hTw:w.heap.size≤gT:=by omega
 have hE2':=hE.trans hE2
 clear hB2 hZ hE2 hE hs2 hgT hEs
 refine gh ?_
 refine W_seqM (fun f w'=>∃ U,U = (uniF m ns n 12).1∧f 5 = .slice (some ⟨gO,0,none⟩) n n∧Ext w w'∧ZMat w' gO gs n n U∧(∀ i j,i < n→j < n→(U i j).natAbs≤531441)∧(Go.Det.det n U = 1 ∨ Go.Det.det n U = -1)) ?_ ?_
 · refine gh ?_
   refine W_loop (fun q f w'=>∃ k tk U,(U,tk) = uniF m ns n k∧q = 12 - k∧k≤12∧f 1 = .int .i64 ((n:Nat):Int)∧f 5 = .slice (some ⟨gO,0,none⟩) n n∧f 7 = .pointer (some ⟨gT,0,none⟩)∧f 8 = .int .i64 ((k:Nat):Int)∧Ext w w'∧ZMat w' gO gs n n U∧TapeB w' gT A m cap tk∧(∀ i j,i < n→j < n→(U i j).natAbs≤3 ^ k)∧(Go.Det.det n U = 1 ∨ Go.Det.det n U = -1))
    12 ⟨0,0,Go.Det.one,rfl,rfl,Nat.zero_le _,rfl,rfl,rfl,rfl,hE2',hZ2,hT2,fun i j _ _=>by unfold Go.Det.one; split <;> decide,.inl (Go.Det.det_one n)⟩ ?_
   clear hE2' hZ2 hT2 w2 w1
   rintro q f w1 ⟨k,tk,U,hun,rfl,hk,hf1,hf5,hf7,hf8,hE,hZ,hT,hU,hd⟩
   rw [ui hf1,ui hf5,ui hf7,ui hf8]
   clear hf1 hf5 hf7 hf8
   have hexit:U = (uniF m ns n 12).1→∀ w2,Ext w1 w2→∃ U,U = (uniF m ns n 12).1∧Value.slice (some ⟨gO,0,none⟩) n n = .slice (some ⟨gO,0,none⟩) n n∧Ext w w2∧ZMat w2 gO gs n n U∧(∀ i j,i < n→j < n→(U i j).natAbs≤531441)∧(Go.Det.det n U = 1 ∨ Go.Det.det n U = -1):=fun hU12 w2 hE2 =>
    ⟨U,hU12,rfl,hE.trans hE2,hZ.ext hE2,fun i j hi hj=>Nat.le_trans (hU i j hi hj) (Nat.le_trans (Nat.pow_le_pow_right (by decide) hk) (by decide)),hd⟩
   refine W_seq ?_
   refine W_seqD [(0,3),(1,3),(2,3),(3,3),(4,3),(5,3),(6,0),(7,3),(8,3),(9,3),(10,0),(11,3),(12,3),(13,3)] mixed (by kernel_rfl) (fun w2 hE2 _=>?_)
   obtain ⟨ht0,ht1⟩:=tapeB_at (hT.ext hE2)
   by_cases hk12:k < 12
   · by_cases hmore:min tk m < m
     · refine gh ?_
       clear ht0 ht1 hexit
       refine R1_call2 (belowD_ok gT A m cap tk n ns w w2 (hE.trans hE2) hN hTw (hT.ext hE2) (by omega) (by omega)) ?_
       rintro _ w3 ⟨rfl,hT3,hC3,-⟩
       obtain ⟨i,hie⟩ : ∃ i,i = blw m ns tk n:=⟨_,rfl⟩
       have hi:i < n:=by rw [hie]; exact blw_lt (by omega)
       rw [← hie]
       have hE3:Ext w w3:=hC3.ext_of (hE.trans hE2) (fun b hb=>by omega)
       have hZ3:=(hZ.ext hE2).ch hC3 hsep.1 (fun k hk=>hsep.2 k hk)
       refine gh ?_
       refine R1_call2 (belowD_ok gT A m cap (tk + 1) n ns w w3 hE3 hN hTw hT3 (by omega) (by omega)) ?_
       rintro _ w4 ⟨rfl,hT4,hC4,-⟩
       obtain ⟨j,hje⟩ : ∃ j,j = blw m ns (tk + 1) n:=⟨_,rfl⟩
       have hj:j < n:=by rw [hje]; exact blw_lt (by omega)
       rw [← hje]
       have hE4:Ext w w4:=hC4.ext_of hE3 (fun b hb=>by omega)
       have hZ4:=hZ3.ch hC4 hsep.1 (fun k hk=>hsep.2 k hk)
       refine gh ?_
       refine R1_call2 (next_ok gT A m cap (tk + 1 + 1) ns w w4 hE4 hN hTw hT4) ?_
       rintro _ w5 ⟨rfl,hT5,hC5,-⟩
       have hE5:Ext w w5:=hC5.ext_of hE4 (fun b hb=>by omega)
       have hZ5:=hZ4.ch hC5 hsep.1 (fun k hk=>hsep.2 k hk)
       have htr:=tp_range hN (tk + 1 + 1)
       obtain ⟨c,hc⟩ : ∃ c,c = (tp m ns (tk + 1 + 1)).tmod 3:=⟨_,rfl⟩
       have hc2:-2≤c∧c≤2:=by
        have h1:=Int.tmod_lt_of_pos (tp m ns (tk + 1 + 1)) (show (0:Int) < 3 by decide)
        have h2:=Int.tmod_lt_of_pos (-(tp m ns (tk + 1 + 1))) (show (0:Int) < 3 by decide)
        rw [Int.neg_tmod] at h2
        omega
       refine gh ?_
       refine R1_rem_z rfl rfl (by decide) ?_
       rw [show (tp m ns (tk + 1 + 1)).tmod 3 = c from hc.symm]
       have hpow:3 ^ k≤3 ^ 11:=Nat.pow_le_pow_right (by decide) (by omega)
       have hpv:(3:Nat) ^ 11 = 177147:=by decide
       have hUop:=uop_le hi hj hc2 hU
       have hdop:=det_uop c U hi hj hd
       have hnext:(uop i j c U,tk + 1 + 1 + 1) = uniF m ns n (k + 1):=by
        show _ = if min (uniF m ns n k).2 m < m then _ else _
        rw [← hun,if_pos hmore,hie,hje,hc]
       clear hZ3 hZ4 hT3 hT4 hE3 hE4 hC3 hC4 hC5 hZ hT hE hE2 hc htr
       refine gh ?_
       refine W_loop (fun q f w'=>∃ r,q = n - r∧r≤n∧f 1 = .int .i64 ((n:Nat):Int)∧f 5 = .slice (some ⟨gO,0,none⟩) n n∧f 7 = .pointer (some ⟨gT,0,none⟩)∧f 8 = .int .i64 ((k:Nat):Int)∧f 9 = .int .i64 ((i:Nat):Int)∧f 10 = .int .i64 ((j:Nat):Int)∧f 11 = .int .i64 (c)∧f 61 = .int .i64 ((n:Nat):Int)∧f 62 = .int .i64 ((r:Nat):Int)∧Ext w w'∧ZMat w' gO gs n n (fun a b=>if a < r then uop i j c U a b else U a b)∧TapeB w' gT A m cap (tk + 1 + 1 + 1))
        n ⟨0,rfl,Nat.zero_le _,rfl,rfl,rfl,rfl,rfl,rfl,rfl,rfl,rfl,hE5,hZ5.congr fun a b _ _=>by rw [if_neg (by omega)],hT5⟩ ?_
       clear hE5 hZ5 hT5
       rintro q f w1 ⟨r,rfl,hr,hf1,hf5,hf7,hf8,hf9,hf10,hf11,hf61,hf62,hE,hZ,hT⟩
       rw [ui hf1,ui hf5,ui hf7,ui hf8,ui hf9,ui hf10,ui hf11,ui hf61,ui hf62]
       clear hf1 hf5 hf7 hf8 hf9 hf10 hf11 hf61 hf62
       by_cases hrl:r < n
       · have hrow:=hZ.row r hrl
         have hgr:=hgs r hrl
         have hsr:=hsep.2 r hrl
         have hUi:=hU r i hrl hi
         have hUj:=hU r j hrl hj
         have hcU:=abs_mul_le hUj hc2
         by_cases hij:i = j
         · by_cases hc0:c < 0
           · refine gh ?_
             refine W_regD [(0,3),(1,3),(2,3),(3,0),(4,3),(5,3),(6,3),(7,3),(8,0),(9,3),(10,3),(11,0),(12,3),(13,3),(14,2)] mixed (by kernel_rfl) (fun w2 hE2 _=>?_)
             have hx:=(hZ.ext hE2).at hrl
             have hei:=((hZ.ext hE2).row r hrl).at hi
             rw [if_neg (by omega)] at hei
             refine gh ?_
             refine R1_neg_z rfl (by omega) (by omega) ?_
             refine gh ?_
             refine R1_storeI (one_of rfl) (.inl rfl) rfl rfl ((hZ.ext hE2).row r hrl) (by rw [arr_size]; omega) ?_
             intro w3 hB3 hC3 hs3
             have hZ3:=(hZ.ext hE2).put hrl (RowW.set hB3) hC3
             refine gh ?_
             refine ⟨_,?_,r + 1,rfl,by omega,rfl,rfl,rfl,rfl,rfl,rfl,rfl,rfl,rfl,hC3.ext_of (hE.trans hE2) (fun b hb=>by omega),hZ3.congr fun a b _ _=>?_,Blk.ch (hT.ext hE2) hC3 (by omega)⟩
             · omega
             · simp only [set2]
               by_cases e:a = r∧b = i
               · rw [if_pos e,if_pos (by omega)]; unfold uop; rw [if_pos hij,if_pos hc0,if_pos e.2,e.1,e.2]; omega
               · rw [if_neg e]
                 by_cases h1:a < r
                 · rw [if_pos h1,if_pos (by omega)]
                 · rw [if_neg h1]
                   by_cases h2:a < r + 1
                   · rw [if_pos h2]; unfold uop; rw [if_pos hij,if_pos hc0,if_neg (by omega)]
                   · rw [if_neg h2]
           · refine gh ?_
             refine ⟨_,?_,r + 1,rfl,by omega,rfl,rfl,rfl,rfl,rfl,rfl,rfl,rfl,rfl,hE,hZ.congr fun a b _ _=>?_,hT⟩
             · omega
             · by_cases h1:a < r
               · rw [if_pos h1,if_pos (by omega)]
               · rw [if_neg h1]
                 by_cases h2:a < r + 1
                 · rw [if_pos h2]; unfold uop; rw [if_pos hij,if_neg hc0]
                 · rw [if_neg h2]
         · by_cases hc0:c = 0
           · refine gh ?_
             refine W_regD [(0,3),(1,3),(2,3),(3,0),(4,3),(5,3),(6,3),(7,3),(8,0),(9,3),(10,3),(11,3),(12,3),(13,0),(14,3),(15,3),(16,0),(17,3),(18,3),(19,3),(20,0),(21,3),(22,3),(23,0),(24,3),(25,2),(26,3),(27,2)] mixed (by kernel_rfl) (fun w2 hE2 _=>?_)
             have hx:=(hZ.ext hE2).at hrl
             have hei:=((hZ.ext hE2).row r hrl).at hi
             have hej:=((hZ.ext hE2).row r hrl).at hj
             rw [if_neg (by omega)] at hei hej
             refine gh ?_
             refine R1_storeI (one_of rfl) (.inl rfl) rfl rfl ((hZ.ext hE2).row r hrl) (by rw [arr_size]; omega) ?_
             intro w3 hB3 hC3 hs3
             have hZ3:=(hZ.ext hE2).put hrl (RowW.set hB3) hC3
             refine gh ?_
             refine R1_storeI (one_of rfl) (.inl rfl) rfl rfl (hZ3.row r hrl) (by rw [arr_size]; omega) ?_
             intro w4 hB4 hC4 hs4
             have hZ4:=hZ3.put hrl (RowW.set hB4) hC4
             refine gh ?_
             refine ⟨_,?_,r + 1,rfl,by omega,rfl,rfl,rfl,rfl,rfl,rfl,rfl,rfl,rfl,hC4.ext_of (hC3.ext_of (hE.trans hE2) (fun b hb=>by omega)) (fun b hb=>by omega),hZ4.congr fun a b _ _=>?_,Blk.ch (Blk.ch (hT.ext hE2) hC3 (by omega)) hC4 (by omega)⟩
             · omega
             · simp only [set2]
               by_cases e:a = r∧b = j
               · rw [if_pos e,if_pos (by omega)]; unfold uop; rw [if_neg hij,if_pos hc0,if_neg (by omega),if_pos e.2,e.1]
               · rw [if_neg e]
                 by_cases e':a = r∧b = i
                 · rw [if_pos e',if_pos (by omega)]; unfold uop; rw [if_neg hij,if_pos hc0,if_pos e'.2,e'.1]
                 · rw [if_neg e']
                   by_cases h1:a < r
                   · rw [if_pos h1,if_pos (by omega)]
                   · rw [if_neg h1]
                     by_cases h2:a < r + 1
                     · rw [if_pos h2]; unfold uop; rw [if_neg hij,if_pos hc0,if_neg (by omega),if_neg (by omega)]
                     · rw [if_neg h2]
           · refine gh ?_
             refine W_regD [(0,3),(1,3),(2,3),(3,0),(4,3),(5,3),(6,0),(7,3),(8,3),(9,3),(10,3),(11,0),(12,3),(13,3),(14,0),(15,3),(16,3),(17,3),(18,2)] mixed (by kernel_rfl) (fun w2 hE2 _=>?_)
             have hx:=(hZ.ext hE2).at hrl
             have hei:=((hZ.ext hE2).row r hrl).at hi
             have hej:=((hZ.ext hE2).row r hrl).at hj
             rw [if_neg (by omega)] at hei hej
             refine gh ?_
             refine R1_mul_z rfl rfl (by omega) (by omega) ?_
             refine gh ?_
             refine R1_storeI (one_of rfl) (.inl rfl) rfl rfl ((hZ.ext hE2).row r hrl) (by rw [arr_size]; omega) ?_
             intro w3 hB3 hC3 hs3
             have hZ3:=(hZ.ext hE2).put hrl (RowW.set hB3) hC3
             refine gh ?_
             refine ⟨_,?_,r + 1,rfl,by omega,rfl,rfl,rfl,rfl,rfl,rfl,rfl,rfl,rfl,hC3.ext_of (hE.trans hE2) (fun b hb=>by omega),hZ3.congr fun a b _ _=>?_,Blk.ch (hT.ext hE2) hC3 (by omega)⟩
             · omega
             · simp only [set2]
               by_cases e:a = r∧b = i
               · rw [if_pos e,if_pos (by omega)]; unfold uop; rw [if_neg hij,if_neg hc0,if_pos e.2,e.1]
               · rw [if_neg e]
                 by_cases h1:a < r
                 · rw [if_pos h1,if_pos (by omega)]
                 · rw [if_neg h1]
                   by_cases h2:a < r + 1
                   · rw [if_pos h2]; unfold uop; rw [if_neg hij,if_neg hc0,if_neg (by omega)]
                   · rw [if_neg h2]
       · obtain rfl:r = n:=by omega
         refine gh ?_
         refine ⟨_,?_,k + 1,tk + 1 + 1 + 1,uop i j c U,hnext,rfl,by omega,rfl,rfl,rfl,rfl,hE,hZ.congr fun a b ha _=>by rw [if_pos ha],hT,fun a b ha hb=>?_,hdop⟩
         · omega
         · have:=hUop a b ha hb; rw [Nat.pow_succ]; omega
     · have hU12:U = (uniF m ns n 12).1:=by
        have:=uniF_stop (m:=m) (n:=n) (k:=k) (ns:=ns) (by rw [← hun]; exact hmore) (12 - k)
        rw [show k + (12 - k) = 12 by omega,← hun] at this
        rw [this]
       refine gh ?_
       exact hexit hU12 w2 hE2
   · have hU12:U = (uniF m ns n 12).1:=by
      obtain rfl:k = 12:=by omega
      rw [← hun]
     refine gh ?_
     exact hexit hU12 w2 hE2
 clear hE2' hZ2 hT2 w2 w1
 rintro f w1 ⟨U,hU12,hf5,hE,hZ,hU,hd⟩
 rw [ui hf5]
 clear hf5
 refine gh ?_
 rw [← hU12]
 exact ret1 rfl rfl ⟨hE,gO,gs,rfl,by omega,fun i hi=>by have:=hgs i hi; omega,hZ,hU,hd⟩
end Go.Proofs.YtmkbpjoihdfpkaaGreat
namespace Go.Det
open Go Go.Proofs.YtmkbpjoihdfpkaaGreat
def Stp (n:Nat) (G T T':Mt):Prop :=
 (∃ i c,c < i∧i < n∧Red i (gr n T G)∧SzF (gr n T G) i (c + 1)∧¬ (2 * bm c (gr n T G) i c≤det (c + 1) (gr n T G)∧-(2 * bm c (gr n T G) i c)≤det (c + 1) (gr n T G))∧T' = rop (nearZ (bm c (gr n T G) i c) (det (c + 1) (gr n T G))) i c T) ∨
 (∃ p,p + 1 < n∧Red (p + 1) (gr n T G)∧SzF (gr n T G) (p + 1) 0∧¬ LvF (gr n T G) p∧T' = swp2 p (p + 1) T)
theorem Stp.red {n:Nat} {G T T':Mt} (h:Stp n G T T'):¬ Red n (gr n T G):=fun hr=>by
 rcases h with ⟨i,c,h1,h2,_,_,h5,_⟩ | ⟨p,h1,_,_,h4,_⟩
 · exact h5 (hr.sized i c h1 h2)
 · exact h4 (hr.lov p h1)
theorem Stp.unique {n:Nat} {G T T1 T2:Mt} (h1:Stp n G T T1) (h2:Stp n G T T2):T1 = T2:=by
 rcases h1 with ⟨i,c,a1,a2,a3,a4,a5,rfl⟩ | ⟨p,a1,a3,a4,a5,rfl⟩ <;> rcases h2 with ⟨j,d,b1,b2,b3,b4,b5,rfl⟩ | ⟨q,b1,b3,b4,b5,rfl⟩
 · have e:i = j:=by
    rcases Nat.lt_trichotomy i j with h | h | h
    · exact absurd (b3.sized i c a1 h) a5
    · exact h
    · exact absurd (a3.sized j d b1 h) b5
   subst e
   have e:c = d:=by
    rcases Nat.lt_trichotomy c d with h | h | h
    · exact absurd (a4 d h b1) b5
    · exact h
    · exact absurd (b4 c h a1) a5
   subst e
   rfl
 · exfalso
   rcases Nat.lt_trichotomy i (q + 1) with h | h | h
   · exact a5 (b3.sized i c a1 h)
   · subst h; exact a5 (b4 c (Nat.zero_le _) a1)
   · exact b5 (a3.lov q h)
 · exfalso
   rcases Nat.lt_trichotomy j (p + 1) with h | h | h
   · exact b5 (a3.sized j d b1 h)
   · subst h; exact b5 (a4 d (Nat.zero_le _) b1)
   · exact a5 (b3.lov p h)
 · have e:p = q:=by
    rcases Nat.lt_trichotomy p q with h | h | h
    · exact absurd (b3.lov p (by omega)) a5
    · exact h
    · exact absurd (a3.lov q (by omega)) b5
   rw [e]
inductive Rch (n:Nat) (G:Mt):Mt→Mt→Prop
 | refl (T:Mt):Rch n G T T
 | step {T T' T'':Mt} (h:Rch n G T T') (s:Stp n G T' T''):Rch n G T T''
inductive Rcn (n:Nat) (G:Mt):Nat→Mt→Mt→Prop
 | zero (T:Mt):Rcn n G 0 T T
 | succ {k:Nat} {T T' T'':Mt} (s:Stp n G T T') (h:Rcn n G k T' T''):Rcn n G (k + 1) T T''
theorem Rcn.snoc {n k:Nat} {G T T' T'':Mt} (h:Rcn n G k T T'):Stp n G T' T''→Rcn n G (k + 1) T T'':=by
 induction h with
 | zero=>exact fun s=>.succ s (.zero _)
 | succ s' _ ih=>exact fun s=>.succ s' (ih s)
theorem Rch.cnt {n:Nat} {G T T':Mt} (h:Rch n G T T'):∃ k,Rcn n G k T T':=by
 induction h with
 | refl=>exact ⟨0,.zero _⟩
 | step _ s ih=>obtain ⟨k,hk⟩:=ih; exact ⟨k + 1,hk.snoc s⟩
theorem Rcn.unique {n:Nat} {G:Mt}:∀ (k l:Nat) {T T1 T2:Mt},Rcn n G k T T1→Red n (gr n T1 G)→Rcn n G l T T2→Red n (gr n T2 G)→T1 = T2
 | 0,0,_,_,_,.zero _,_,.zero _,_=>rfl
 | 0,_ + 1,_,_,_,.zero _,r1,.succ s _,_=>absurd r1 s.red
 | _ + 1,0,_,_,_,.succ s _,_,.zero _,r2=>absurd r2 s.red
 | k + 1,l + 1,_,_,_,.succ s h,r1,.succ s' h',r2=>by
  have e:=s.unique s'
  subst e
  exact Rcn.unique k l h r1 h' r2
theorem Rch.unique {n:Nat} {G T T1 T2:Mt} (h1:Rch n G T T1) (r1:Red n (gr n T1 G)) (h2:Rch n G T T2) (r2:Red n (gr n T2 G)):T1 = T2:=by
 obtain ⟨k,hk⟩:=h1.cnt
 obtain ⟨l,hl⟩:=h2.cnt
 exact Rcn.unique k l hk r1 hl r2
end Go.Det
namespace Go.Proofs.YtmkbpjoihdfpkaaGreat
open Go Go.Eng Go.Num Go.Proofs
open Go.Det (gr bm det Sy PM Red SzF LvF LI RRb RJ one nearZ rop swp2 msr Stp Rch)
def RRx (w:World) (r N:Nat) (G:Nat→Nat→Int) (v:Value) (w':World):Prop :=
 Ext w w'∧∃ T gO gs gT gsT,Rch r G one T∧v = .tuple #[.slice (some ⟨gO,0,none⟩) r r,.slice (some ⟨gT,0,none⟩) r r,.int .i64 ((0:Nat):Int)] ∧
  w.heap.size≤gO∧(∀ i,i < r→w.heap.size≤gs i)∧ZMat w' gO gs r r (gr r T G)∧w.heap.size≤gT∧(∀ i,i < r→w.heap.size≤gsT i)∧OMat w' gT gsT r r (fun i j=>T j i)∧Found r N G T
set_option maxHeartbeats 16000000 in
theorem rReduceD_ok (va:Value) (r N0:Nat) (len:Nat→Nat) (G:Nat→Nat→Int) (w:World) (ha:MatE (EI N0) w va r len G) (hN1:1≤N0) (hN0:N0≤60) (h0:valE r len G = 0) (hd:det r G≤10000) :
 Meets Tryz.prog 38 #[va] w (RRx w r (15 * Nb N0 8 + 12) G):=by
 refine fn_W (n:=49) Tryz.func38 rfl rfl (by kernel_rfl) (by simp) ?_
 have ha0:=ha
 have hX:Ext w w:=Ext.refl w
 refine gh ?_
 refine W_seq ?_
 refine gh ?_
 refine R1_call2 (rvalidate_ok va r N0 len G w (ha0.ext hX) hN1 (by omega)) ?_
 rintro _ w_1 ⟨hE_,rfl⟩
 replace hX:=hX.trans hE_
 clear hE_
 have h5:=valE_le r len G
 obtain ⟨hok,h8,_⟩:=valE_zero.1 h0
 obtain ⟨hr1,hr2,hlen⟩:=okS_iff.1 hok
 obtain ⟨hp,hs⟩:=val_pm h0
 have hG0:=ha0.sq hlen
 have bG:∀ i j,i < r→j < r→Bd N0 (G i j):=fun i j hi hj=>hG0.bd hi hj
 refine gh ?_
 refine W_seq ?_
 refine gh ?_
 refine R1_call2 (rsmallM_ok va r N0 G w_1 (hG0.ext hX) hr2 hN1 (by omega)) ?_
 rintro _ w2 ⟨hE2,b,rfl,hb⟩
 replace hX:=hX.trans hE2
 obtain rfl:b = true:=hb.2 hd
 obtain ⟨hRB,hLI⟩:=rrB hs hr1 h8 hN1 bG hp
 have hK:Nb N0 8≤15615:=by simp only [Nb]; omega
 have hK0:N0≤Nb N0 8:=Nb_le' N0 (Nat.zero_le 8)
 obtain ⟨N,hN⟩ : ∃ N,N = 15 * Nb N0 8 + 12:=⟨_,rfl⟩
 rw [← hN] at hRB ⊢
 obtain ⟨D,hD⟩ : ∃ D,D = pw (Nb N0 8):=⟨_,rfl⟩
 obtain ⟨B1,hB1⟩ : ∃ D,D = pw (5 * Nb N0 8 + 3):=⟨_,rfl⟩
 obtain ⟨Bs,hBs⟩ : ∃ D,D = pw (13 * Nb N0 8 + 9):=⟨_,rfl⟩
 rw [← hD,← hB1] at hLI
 rw [← hD,← hB1,← hBs] at hRB
 clear hD hB1 hBs
 have hNl:N < 262000:=by omega
 have hJ0:=RJ.start hr1 hRB hLI
 obtain ⟨Aa,capa,hva,_⟩:=id ha
 refine gh ?_
 refine R1_call2 (rcopy_ok va r r N0 G w2 (hG0.ext hX) (by omega) hr1 (by omega) (by omega)) ?_
 rintro _ w3 ⟨hE3,gH,gsH,cpH,rfl,_,_,_,hH⟩
 replace hX:=hX.trans hE3
 subst hva
 refine gh ?_
 refine R1_call2 (ridentity_ok ((r:Nat):Int) w3 (by omega) (by omega)) ?_
 intro v w4 hv
 obtain ⟨_,rfl,hE4,gI,gsI,rfl,hgI,hgsI,hI⟩:=hv.get (by unfold idOk; exact decide_eq_true (by omega))
 clear hv
 rw [Int.toNat_natCast] at hI hgsI ⊢
 have hsz:=hX.size
 replace hX:=hX.trans hE4
 have hIM:OMat w4 gI gsI r r (fun i j=>one j i):=hI.congr fun i j _ _=>by
  show (if i = j then (1:Int) else 0) = if j = i then 1 else 0
  by_cases e:i = j
  · rw [if_pos e,if_pos e.symm]
  · rw [if_neg e,if_neg (Ne.symm e)]
 have hHM:MatE (EI N) w4 (.slice (some ⟨gH,0,none⟩) r r) r (fun _=>r) (gr r one G) :=
  MatE.mono ((((hH.congr (bn':=fun _ _=>N0) fun i j hi hj=>⟨Nat.le_refl _,(Go.Det.gr_one hi hj).symm⟩).read (by omega) (by omega))).ext hE4) (by omega)
 have hfr:w.heap.size≤gI∧∀ i,i < r→w.heap.size≤gsI i:=⟨by omega,fun i hi=>by have:=hgsI i hi; omega⟩
 clear hH hI hgI hgsI hsz hE4 hE3 hE2 ha ha0 hG0
 refine gh ?_
 refine W_loop (fun q f w'=>∃ k j T vh gT gsT,Rch r G one T∧q = msr r k j G T∧RJ r k j G T D B1 Bs∧f 6 = vh∧f 7 = .slice (some ⟨gT,0,none⟩) r r∧Ext w w'∧MatE (EI N) w' vh r (fun _=>r) (gr r T G)∧OMat w' gT gsT r r (fun i j=>T j i)∧w.heap.size≤gT∧(∀ i,i < r→w.heap.size≤gsT i))
  (msr r 0 0 G one) ⟨0,0,one,_,gI,gsI,.refl _,rfl,hJ0,rfl,rfl,hX,hHM,hIM,hfr.1,hfr.2⟩ ?_
 clear hX hHM hIM hfr hJ0 w4
 rintro q f w4 ⟨k,j,T,vh,gT,gsT,hRc,rfl,hJ,hf6,hf7,hX,hH,hT,hg1,hg2⟩
 rw [ui hf6,ui hf7]
 clear hf6 hf7
 have bT:∀ i j,i < r→j < r→Bd N (T j i):=fun i j hi hj=>hRB.bT _ _ hJ.li j i hj hi
 have hsym:=Go.Det.gr_tr hs (T:=T)
 have hdet:det r (gr r T G) = det r G:=by
  rw [Go.Det.gr_det]
  rcases hJ.li.uni with e | e <;> rw [e] <;> omega
 refine gh ?_
 refine R1_call2 (step_ok vh r N (gr r T G) w4 hH hr1 hr2 (by omega) hNl hJ.li.pos (fun i c h1 h2 h3 h4 h5=>(hJ.size hRB h8 h2 h1 h3 h4 h5).1)) ?_
 rintro _ w5 ⟨hE5,⟨hred,rfl⟩ | ⟨gU,gsU,U,rfl,hU,bU,hcase⟩⟩
 · -- it is reduced
   replace hX:=hX.trans hE5
   replace hH:=hH.ext hE5
   replace hT:=hT.ext hE5
   have hsm:∀ i j,i < r→j < r→-262144 < gr r T G i j∧gr r T G i j < 262144:=fun i j hi hj=>Go.Det.entry_small hsym hJ.li.pos hred h8 (by omega) hi hj
   refine gh ?_
   refine W_seq ?_
   refine gh ?_
   refine R1_call2 (rtoInts_ok vh r N (fun _=>r) (gr r T G) w5 hH (by omega)) ?_
   intro _ w6 hq
   have hokF:okF r (fun _=>r) (gr r T G) = true:=by
    unfold okF
    rw [show okM r (fun _=>r) = true from okM_iff.2 ⟨⟨hr1,hr2,hr1,hr2⟩,fun _ _=>rfl⟩,Bool.true_and]
    exact allFit_iff.2 fun i j hi hj=>(fits_t (by have:=hsm i j hi hj; omega) (by have:=hsm i j hi hj; omega)).1
   rw [hokF] at hq
   unfold RZB at hq
   rw [if_pos rfl] at hq
   obtain ⟨_,rfl,hE6,gO,gs,rfl,hgO,hgs,hZ⟩:=hq
   have hsz:=hX.size
   refine gh ?_
   refine ret3 (v:=.slice _ _ _) (v':=.slice _ _ _) (v'':=.int _ _) rfl rfl rfl rfl ⟨hX.trans hE6,T,gO,gs,gT,gsT,hRc,rfl,by omega,fun i hi=>by have:=hgs i hi; omega,hZ,hg1,hg2,hT.ext hE6,?_⟩
   exact ⟨hJ.li.uni,hJ.li.pos,hsym,hred,hdet,fun i j hi hj=>bT j i hj hi,hsm⟩
 have hstep:∃ k' j' T',Rch r G one T'∧RJ r k' j' G T' D B1 Bs∧msr r k' j' G T' < msr r k j G T∧∀ a b,a < r→b < r→(Go.Det.sm r fun k=>U k a * T k b) = T' a b:=by
  rcases hcase with ⟨i,c,h1,h2,h3,h4,h5,rfl⟩ | ⟨p,h1,h3,h4,h5,rfl⟩
  · obtain ⟨_,e1,e2⟩:=hJ.size hRB h8 h2 h1 h3 h4 h5
    exact ⟨i,c,_,.step hRc (.inl ⟨i,c,h1,h2,h3,h4,h5,rfl⟩),e1,e2,fun a b ha hb=>Go.Det.step_rop _ h2 h1 ha hb⟩
  · obtain ⟨e1,e2⟩:=hJ.exch hRB h8 h1 h3 h4 h5
    exact ⟨p,p,_,.step hRc (.inr ⟨p,h1,h3,h4,h5,rfl⟩),e1,e2,fun a b ha hb=>Go.Det.step_swp h1 ha hb⟩
 obtain ⟨k',j',T',hRc',hJ',hm',hUT⟩:=hstep
 have hUr:=hU.rd bU (Nat.le_refl _) (by omega) (by omega)
 replace hX:=hX.trans hE5
 replace hH:=hH.ext hE5
 replace hT:=hT.ext hE5
 refine gh ?_
 refine W_seq ?_
 refine gh ?_
 refine R1_call2 (rcongruent_ok (N2:=N + N + 1) hH hUr hr1 hr2 (by omega) rfl) ?_
 rintro _ w6 ⟨hE6,gP,gsP,rfl,_,_,hP⟩
 have hsz:=(hX.trans hE6).size
 refine gh ?_
 refine R1_call2 (rproductT_ok (N:=N) ((hT.ext hE6).rd bT (Nat.le_refl _) (by omega) (by omega)) (hUr.ext hE6) (by omega) hr1 hr2 hr1 hr2 hr1 hr2) ?_
 rintro _ w7 ⟨hE7,gQ,gsQ,rfl,hgQ,hgsQ,hQ⟩
 replace hX:=hX.trans (hE6.trans hE7)
 have hP':OMat w7 gP gsP r r (gr r T' G):=(hP.ext hE7).congr fun i j hi hj=>Go.Det.gr_step hUT hi hj
 have hQ':OMat w7 gQ gsQ r r (fun i j=>T' j i):=hQ.congr fun i j hi hj=>mulM_step hUT hi hj
 have bP:∀ i j,i < r→j < r→Bd N (gr r T' G i j):=fun i j hi hj=>hRB.bH _ _ hJ'.li i j hi hj
 refine gh ?_
 refine ⟨_,hm',k',j',T',_,gQ,gsQ,hRc',rfl,hJ',rfl,rfl,hX,hP'.rd bP (Nat.le_refl _) (by omega) (by omega),hQ',by omega,fun i hi=>by have:=hgsQ i hi; omega⟩
def FormS (n:Nat) (G H:Nat→Nat→Int):Prop:=∃ T,Rch n G one T∧Red n (gr n T G)∧H = gr n T G
theorem FormS.unique {n:Nat} {G H H':Nat→Nat→Int} (h:FormS n G H) (h':FormS n G H'):H = H':=by
 obtain ⟨T,h1,h2,rfl⟩:=h
 obtain ⟨T',h1',h2',rfl⟩:=h'
 rw [h1.unique h2 h1' h2']
noncomputable def rawM (kd q:Nat) (ns:Nat→Int) (m:Nat) (ms:Nat→Int) (n:Nat):Nat→Nat→Int:=gr n (fun i j=>(uniF m ms n 12).1 j i) (grmM kd q ns n)
def RRwD (w:World) (n:Nat) (M:Nat→Nat→Int) (v:Value) (w':World):Prop :=
 Ext w w'∧∃ gO gs,v = .slice (some ⟨gO,0,none⟩) n n∧w.heap.size≤gO∧(∀ i,i < n→w.heap.size≤gs i)∧OMat w' gO gs n n M∧valE n (fun _=>n) M = 0∧det n M≤10000∧∀ i j,i < n→j < n→Bd 5 (M i j)
def RFoD (w:World) (n:Nat) (G:Nat→Nat→Int) (v:Value) (w':World):Prop :=
 Ext w w'∧∃ gO gs H,FormS n G H∧v = .slice (some ⟨gO,0,none⟩) n n∧w.heap.size≤gO∧(∀ i,i < n→w.heap.size≤gs i)∧ZMat w' gO gs n n H∧redOk n (fun _=>n) H∧∀ i j,i < n→j < n→-262144 < H i j∧H i j < 262144
set_option maxHeartbeats 16000000 in
theorem latRawD_ok (v:Value) (dm kd q m most:Nat) (ns ms:Nat→Int) (w:World) (h:LatV w v dm kd q ns m ms) (hmo:0 < most) (hmo8:most≤8) :
 Meets Tryz.prog 20 #[v,.int .i64 ((most:Nat):Int)] w (RRwD w (1 + dm % most) (rawM kd q ns m ms (1 + dm % most))):=by
 obtain ⟨A,cap,A',cap',rfl,hd,hk,hc,hc',hN,hN'⟩:=h
 have hL:=LatV.agg hd hk hc hc' hN hN'
 refine fn_W (n:=18) Tryz.func20 rfl rfl (by kernel_rfl) (by simp) ?_
 have hdm:=Nat.mod_lt dm hmo
 have hX:Ext w w:=Ext.refl w
 refine gh ?_
 refine R1_box (v:=.agg _) (.inl rfl) rfl ?_
 intro w_1 hB0_ hE_ hs_
 have hX1:Blk w_1 w.heap.size 27 #[.int .u8 ((dm:Nat):Int),.int .u8 ((kd:Nat):Int),.slice A q cap,.slice A' m cap']:=hB0_
 obtain ⟨gX,hg_⟩ : ∃ g,g = w.heap.size:=⟨_,rfl⟩
 rw [← hg_] at hX1 ⊢
 have hfr_gX:w.heap.size≤gX:=by have:=hX.size; omega
 replace hX:=hX.trans hE_
 clear hB0_ hs_ hg_ hE_
 obtain ⟨x0,x1,x2,x3⟩:=blkQ hX1
 refine gh ?_
 refine R1_load4F (by decide) agg_Lat rfl x0 x1 x2 x3 ?_
 clear x0 x1 x2 x3
 refine gh ?_
 refine R1_call2 (latGramD_ok _ dm kd q m most ns ms w_1 (hL w_1 hX) hmo hmo8) ?_
 rintro _ w_2 ⟨hE_,gA,gsA,rfl,_,hgsA,hZ,h0,hdet,hM⟩
 replace hX1:=hX1.ext hE_
 replace hX:=hX.trans hE_
 clear hE_
 obtain ⟨n,hn⟩ : ∃ n,n = 1 + dm % most:=⟨_,rfl⟩
 rw [← hn] at hZ h0 hdet hM hgsA ⊢
 obtain ⟨M,hMe⟩ : ∃ M,M = grmM kd q ns n:=⟨_,rfl⟩
 rw [← hMe] at hZ h0 hdet hM
 have hn1:1≤n:=by omega
 have hn8:n≤8:=by omega
 have hoM:okM n (fun _=>n) = true:=okM_iff.2 ⟨⟨hn1,by omega,hn1,by omega⟩,fun _ _=>rfl⟩
 have bM:∀ i j,i < n→j < n→Bd 1 (M i j):=fun i j hi _=>by
  have:=hM i j hi
  unfold Bd B
  omega
 refine gh ?_
 refine W_seqD [(0,3),(2,3),(3,0),(4,3),(5,3),(1,1),(6,1),(7,1),(8,1),(9,3)] mixed (by kernel_rfl) (fun w_3 hE_ _=>?_)
 replace hX1:=hX1.ext hE_
 replace hZ:=hZ.ext hE_
 replace hX:=hX.trans hE_
 clear hE_
 obtain ⟨_,_,_,x3⟩:=blkQ hX1
 replace x3:_ = some (Value.slice A' m cap'):=x3
 refine gh ?_
 refine R1_fieldAddr fa_Lat3 rfl ?_
 refine gh ?_
 clear x3
 refine R1_call1 (rof_ok _ n (fun _=>n) M w_3 (hZ.read (fun i j hi _=>by have:=hM i j hi; omega) (by omega) (by omega))) ?_
 intro u w5 hu
 obtain ⟨hE5,gI,gsI,rfl,_,_,hO⟩:=hu.get hoM
 clear hu
 refine ⟨hE5,?_⟩
 replace hX:=hX.trans hE5
 refine gh ?_
 refine gh ?_
 refine R1_call1 (unimodularD_ok A' m cap' n ms w5 (hN'.ext hX) hn1 (by omega)) ?_
 rintro _ w_4 ⟨hE_,gU,gsU,rfl,_,_,hU,bU,hdU⟩
 refine ⟨hE_,?_⟩
 replace hO:=hO.ext hE_
 replace hX:=hX.trans hE_
 clear hE_
 obtain ⟨U,hUe⟩ : ∃ U,U = (uniF m ms n 12).1:=⟨_,rfl⟩
 rw [← hUe] at hU bU hdU
 have bU1:∀ i j,i < n→j < n→Bd 1 (U i j):=fun i j hi hj=>by
  have:=bU i j hi hj
  unfold Bd B
  omega
 refine gh ?_
 refine R1_call1 (rof_ok _ n (fun _=>n) U w_4 (hU.read (fun i j hi hj=>by have:=bU i j hi hj; omega) (by omega) (by omega))) ?_
 intro u w6 hu
 obtain ⟨hE6,gV,gsV,rfl,_,_,hV⟩:=hu.get hoM
 clear hu
 refine ⟨hE6,?_⟩
 replace hX:=hX.trans hE6
 replace hO:=hO.ext hE6
 refine gh ?_
 refine R1_call1 (rcongruent_ok (N:=1) (N2:=3) (hO.rd bM (Nat.le_refl _) (by omega) (by omega)) (hV.rd bU1 (Nat.le_refl _) (by omega) (by omega)) hn1 (by omega) (by decide) rfl) ?_
 rintro _ w7 ⟨hE7,gP,gsP,rfl,hgP,hgsP,hP⟩
 refine ⟨hE7,?_⟩
 have hsz:=hX.size
 have hdt:det n (fun i j=>U j i) = 1 ∨ det n (fun i j=>U j i) = -1:=by
  rw [show det n (fun i j=>U j i) = det n U from Go.Det.det_tr n U]; exact hdU
 obtain ⟨v1,v2⟩:=cong_val h0 hdt
 refine gh ?_
 have hRM:rawM kd q ns m ms n = gr n (fun i j=>U j i) M:=by unfold rawM; rw [← hMe,← hUe]
 rw [hRM]
 exact ret1 (v:=.slice _ _ _) rfl rfl ⟨hX.trans hE7,gP,gsP,rfl,by omega,fun i hi=>by have:=hgsP i hi; omega,hP,v1,by rw [v2]; exact hdet,fun i j hi hj=>(gr_bd2 (N:=1) (by omega) bM bU1 i j hi hj).mono (by omega)⟩
set_option maxHeartbeats 16000000 in
theorem latFormD_ok (v:Value) (dm kd q m most:Nat) (ns ms:Nat→Int) (w:World) (h:LatV w v dm kd q ns m ms) (hmo:0 < most) (hmo8:most≤8) :
 Meets Tryz.prog 19 #[v,.int .i64 ((most:Nat):Int)] w (RFoD w (1 + dm % most) (grmM kd q ns (1 + dm % most))):=by
 obtain ⟨A,cap,A',cap',rfl,hd,hk,hc,hc',hN,hN'⟩:=h
 have hL:=LatV.agg hd hk hc hc' hN hN'
 refine fn_W (n:=18) Tryz.func19 rfl rfl (by kernel_rfl) (by simp) ?_
 have hdm:=Nat.mod_lt dm hmo
 have hX:Ext w w:=Ext.refl w
 refine gh ?_
 refine R1_box (v:=.agg _) (.inl rfl) rfl ?_
 intro w_1 hB0_ hE_ hs_
 have hX1:Blk w_1 w.heap.size 27 #[.int .u8 ((dm:Nat):Int),.int .u8 ((kd:Nat):Int),.slice A q cap,.slice A' m cap']:=hB0_
 obtain ⟨gX,hg_⟩ : ∃ g,g = w.heap.size:=⟨_,rfl⟩
 rw [← hg_] at hX1 ⊢
 have hfr_gX:w.heap.size≤gX:=by have:=hX.size; omega
 replace hX:=hX.trans hE_
 clear hB0_ hs_ hg_ hE_
 obtain ⟨x0,x1,x2,x3⟩:=blkQ hX1
 refine gh ?_
 refine R1_load4F (by decide) agg_Lat rfl x0 x1 x2 x3 ?_
 clear x0 x1 x2 x3
 refine gh ?_
 refine R1_call2 (latGramD_ok _ dm kd q m most ns ms w_1 (hL w_1 hX) hmo hmo8) ?_
 rintro _ w_2 ⟨hE_,gA,gsA,rfl,_,hgsA,hZ,h0,hdet,hM⟩
 replace hX1:=hX1.ext hE_
 replace hX:=hX.trans hE_
 clear hE_
 obtain ⟨n,hn⟩ : ∃ n,n = 1 + dm % most:=⟨_,rfl⟩
 rw [← hn] at hZ h0 hdet hM hgsA ⊢
 obtain ⟨M,hMe⟩ : ∃ M,M = grmM kd q ns n:=⟨_,rfl⟩
 rw [← hMe] at hZ h0 hdet hM ⊢
 have hn1:1≤n:=by omega
 have hn8:n≤8:=by omega
 have hoM:okM n (fun _=>n) = true:=okM_iff.2 ⟨⟨hn1,by omega,hn1,by omega⟩,fun _ _=>rfl⟩
 have bM:∀ i j,i < n→j < n→Bd 1 (M i j):=fun i j hi _=>by
  have:=hM i j hi
  unfold Bd B
  omega
 refine gh ?_
 refine R1_call2 (rof_ok _ n (fun _=>n) M w_2 (hZ.read (fun i j hi _=>by have:=hM i j hi; omega) (by omega) (by omega))) ?_
 intro u w5 hu
 obtain ⟨hE5,gI,gsI,rfl,_,_,hO⟩:=hu.get hoM
 clear hu
 replace hX:=hX.trans hE5
 refine gh ?_
 refine R1_call2 (rReduceD_ok _ n 1 (fun _=>n) M w5 (hO.rd bM (Nat.le_refl _) (by omega) (by omega)) (by decide) (by decide) h0 hdet) ?_
 rintro _ w6 ⟨hE6,T,gO,gs,gT,gsT,hRc,rfl,hgO,hgs,hZ,_,_,_,hF⟩
 have hsz:=hX.size
 refine gh ?_
 exact ret1 (v:=.slice _ _ _) rfl rfl ⟨hX.trans hE6,gO,gs,_,⟨T,hRc,hF.red,rfl⟩,rfl,by omega,fun i hi=>by have:=hgs i hi; omega,hZ,found_ok hF hn1 hn8 hdet,hF.small⟩
set_option maxHeartbeats 16000000 in
theorem latOtherD_ok (v:Value) (dm kd q m most:Nat) (ns ms:Nat→Int) (w:World) (h:LatV w v dm kd q ns m ms) (hmo:0 < most) (hmo8:most≤8) :
 Meets Tryz.prog 41 #[v,.int .i64 ((most:Nat):Int)] w (RFoD w (1 + dm % most) (rawM kd q ns m ms (1 + dm % most))):=by
 obtain ⟨A,cap,A',cap',rfl,hd,hk,hc,hc',hN,hN'⟩:=h
 have hL:=LatV.agg hd hk hc hc' hN hN'
 refine fn_W (n:=17) Tryz.func41 rfl rfl (by kernel_rfl) (by simp) ?_
 have hdm:=Nat.mod_lt dm hmo
 have hX:Ext w w:=Ext.refl w
 refine gh ?_
 refine R1_box (v:=.agg _) (.inl rfl) rfl ?_
 intro w_1 hB0_ hE_ hs_
 have hX1:Blk w_1 w.heap.size 27 #[.int .u8 ((dm:Nat):Int),.int .u8 ((kd:Nat):Int),.slice A q cap,.slice A' m cap']:=hB0_
 obtain ⟨gX,hg_⟩ : ∃ g,g = w.heap.size:=⟨_,rfl⟩
 rw [← hg_] at hX1 ⊢
 have hfr_gX:w.heap.size≤gX:=by have:=hX.size; omega
 replace hX:=hX.trans hE_
 clear hB0_ hs_ hg_ hE_
 obtain ⟨x0,x1,x2,x3⟩:=blkQ hX1
 refine gh ?_
 refine R1_load4F (by decide) agg_Lat rfl x0 x1 x2 x3 ?_
 clear x0 x1 x2 x3
 refine gh ?_
 refine R1_call2 (latRawD_ok _ dm kd q m most ns ms w_1 (hL w_1 hX) hmo hmo8) ?_
 rintro _ w_2 ⟨hE_,gA,gsA,rfl,_,hgsA,hO,h0,hdet,bM⟩
 replace hX1:=hX1.ext hE_
 replace hX:=hX.trans hE_
 clear hE_
 obtain ⟨n,hn⟩ : ∃ n,n = 1 + dm % most:=⟨_,rfl⟩
 rw [← hn] at hO h0 hdet bM hgsA ⊢
 obtain ⟨M,hMe⟩ : ∃ M,M = rawM kd q ns m ms n:=⟨_,rfl⟩
 rw [← hMe] at hO h0 hdet bM ⊢
 have hn1:1≤n:=by omega
 have hn8:n≤8:=by omega
 refine gh ?_
 refine R1_call2 (rReduceD_ok _ n 5 (fun _=>n) M w_2 (hO.rd bM (Nat.le_refl _) (by omega) (by omega)) (by decide) (by decide) h0 hdet) ?_
 rintro _ w6 ⟨hE6,T,gO,gs,gT,gsT,hRc,rfl,hgO,hgs,hZ,_,_,_,hF⟩
 have hsz:=hX.size
 refine gh ?_
 exact ret1 (v:=.slice _ _ _) rfl rfl ⟨hX.trans hE6,gO,gs,_,⟨T,hRc,hF.red,rfl⟩,rfl,by omega,fun i hi=>by have:=hgs i hi; omega,hZ,found_ok hF hn1 hn8 hdet,hF.small⟩
end Go.Proofs.YtmkbpjoihdfpkaaGreat
namespace Go.Proofs.YtmkbpjoihdfpkaaGreat
open Go Go.Eng Go.Num Go.Proofs
open Go.Det (gr bm det Sy PM Red one)
theorem ofT_ok8 {v:Value} {n:Nat} {M:Nat→Nat→Int} {w:World} (h:MatZ w v n (fun _=>n) M) (h1:1≤n) (h2:n≤16) :
 Meets Tryz.prog 25 #[v] w (fun u w'=>Ext w w'∧∃ gO gs,u = .slice (some ⟨gO,0,none⟩) n n∧OMat w' gO gs n n M):=by
 have hh:=rof_ok v n (fun _=>n) M w h
 refine ⟨hh.enters,hh.calls.mono fun e w' ⟨u,he,hu⟩=>?_⟩
 obtain ⟨hE,gO,gs,rfl,_,_,hO⟩:=hu.get (okM_iff.2 ⟨⟨h1,h2,h1,h2⟩,fun _ _=>rfl⟩)
 exact ⟨_,he,hE,gO,gs,rfl,hO⟩
set_option maxHeartbeats 64000000 in
theorem lawLllVerifiesAny {v0 vh v2 vx vy:Value} {r r2 r3 dx kx q m dy ky q' m':Nat} {len len2 len3:Nat→Nat} {G Hh Tt:Nat→Nat→Int} {L L3:Nat→Nat→Nat} {ns ms ns' ms':Nat→Int} {w:World}
 (ha:MatL w v0 r len G L) (hh:MatZ w vh r2 len2 Hh) (ht:MatL w v2 r3 len3 Tt L3) (hx:LatV w vx dx kx q ns m ms) (hy:LatV w vy dy ky q' ns' m' ms') :
 Meets Tryz.prog 13 #[v0,vh,v2,vx,vy] w (Law w):=by
 obtain ⟨A,cap,A',cap',rfl,hd,hk,hc,hc',hN,hN'⟩:=hx
 obtain ⟨Ay,capy,Ay',capy',rfl,hdy,hky,hcy,hcy',hNy,hNy'⟩:=hy
 have hL:=LatV.agg hd hk hc hc' hN hN'
 have hLy:=LatV.agg hdy hky hcy hcy' hNy hNy'
 obtain ⟨Ah,caph,hvh,_⟩:=id hh
 refine fn_W (n:=76) Tryz.func13 rfl rfl (by kernel_rfl) (by simp) ?_
 have hdm:=Nat.mod_lt dx (show 0 < 4 by decide)
 have hdm':=Nat.mod_lt dy (show 0 < 4 by decide)
 obtain ⟨n,hn⟩ : ∃ n,n = 1 + dx % 4:=⟨_,rfl⟩
 obtain ⟨n2,hn2⟩ : ∃ n,n = 1 + dy % 4:=⟨_,rfl⟩
 have hn1:1≤n:=by omega
 have hn8:n≤8:=by omega
 have hn21:1≤n2:=by omega
 have hn28:n2≤8:=by omega
 have hX:Ext w w:=Ext.refl w
 refine gh ?_
 refine R1_box (v:=.agg _) (.inl rfl) rfl ?_
 intro w_1 hB0_ hE_ hs_
 have hB1:Blk w_1 w.heap.size 27 #[.int .u8 ((dx:Nat):Int),.int .u8 ((kx:Nat):Int),.slice A q cap,.slice A' m cap']:=hB0_
 obtain ⟨gX,hg_⟩ : ∃ g,g = w.heap.size:=⟨_,rfl⟩
 rw [← hg_] at hB1 ⊢
 have hfr_gX:w.heap.size≤gX:=by have:=hX.size; omega
 replace hX:=hX.trans hE_
 clear hB0_ hs_ hg_ hE_
 refine gh ?_
 refine R1_box (v:=.agg _) (.inl rfl) rfl ?_
 intro w_2 hB0_ hE_ hs_
 have hB2:Blk w_2 w_1.heap.size 27 #[.int .u8 ((dy:Nat):Int),.int .u8 ((ky:Nat):Int),.slice Ay q' capy,.slice Ay' m' capy']:=hB0_
 obtain ⟨gY,hg_⟩ : ∃ g,g = w_1.heap.size:=⟨_,rfl⟩
 rw [← hg_] at hB2 ⊢
 have hfr_gY:w.heap.size≤gY:=by have:=hX.size; omega
 have hne_gY_gX:gY ≠ gX:=by have:=hB1.lt; omega
 replace hB1:=hB1.ext hE_
 replace hX:=hX.trans hE_
 clear hB0_ hs_ hg_ hE_
 refine gh ?_
 refine W_seq ?_
 refine gh ?_
 refine R1_call2 (large8_ok v0 r len G L w_2 (ha.ext hX)) ?_
 rintro _ _ ⟨rfl,b,rfl,hlg⟩
 cases b with
 | true =>
  refine gh ?_
  refine R1_call2 (awake8_ok w_2) ?_
  rintro _ w12 ⟨hE12,rfl⟩
  refine gh ?_
  exact ret1 (v:=.bool _) rfl rfl ⟨hX.trans hE12,rfl⟩
 | false =>
 refine gh ?_
 refine R1_call2 (large8_ok v2 r3 len3 Tt L3 w_2 (ht.ext hX)) ?_
 rintro _ _ ⟨rfl,b,rfl,hlg2⟩
 cases b with
 | true =>
  refine gh ?_
  refine R1_call2 (awake8_ok w_2) ?_
  rintro _ w12 ⟨hE12,rfl⟩
  refine gh ?_
  exact ret1 (v:=.bool _) rfl rfl ⟨hX.trans hE12,rfl⟩
 | false =>
 have hA:=(hlg rfl).e ha
 have hT:=(hlg2 rfl).e ht
 subst hvh
 by_cases hr20:20 < r2
 · refine gh ?_
   refine R1_call2 (awake8_ok w_2) ?_
   rintro _ w12 ⟨hE12,rfl⟩
   refine gh ?_
   exact ret1 (v:=.bool _) rfl rfl ⟨hX.trans hE12,rfl⟩
 obtain ⟨x0,x1,x2,x3⟩:=blkQ hB1
 refine gh ?_
 refine R1_load4F (by decide) agg_Lat rfl x0 x1 x2 x3 ?_
 clear x0 x1 x2 x3
 refine gh ?_
 refine R1_call2 (latFormD_ok _ dx kx q m 4 ns ms w_2 (hL w_2 hX) (by decide) (by decide)) ?_
 rintro _ w_3 ⟨hE_,g1,gs1,F1,_,rfl,_,_,_,_,_⟩
 replace hB1:=hB1.ext hE_
 replace hB2:=hB2.ext hE_
 replace hX:=hX.trans hE_
 clear hE_
 rw [← hn]
 refine gh ?_
 refine R1_call2 (ridentity_ok ((n:Nat):Int) w_3 (by omega) (by omega)) ?_
 intro v w5 hv
 obtain ⟨_,rfl,hE5,gI,gsI,rfl,_,_,hI⟩:=hv.get (by unfold idOk; exact decide_eq_true (by omega))
 clear hv
 rw [Int.toNat_natCast] at hI ⊢
 have hIr:MatE (EI 60) w5 (.slice (some ⟨gI,0,none⟩) n n) n (fun _=>n) one:=hI.rd (fun i j _ _=>one_bd (by decide) i j) (Nat.le_refl _) (by omega) (by omega)
 replace hX:=hX.trans hE5
 replace hB1:=hB1.ext hE5
 replace hB2:=hB2.ext hE5
 clear hE5 hI
 refine gh ?_
 refine W_seqD [(0,3),(1,3),(2,3),(4,3),(5,3),(6,3),(3,1),(7,1),(8,3),(9,3),(10,0),(12,0),(14,3),(16,0),(18,0),(20,3),(11,1),(13,1),(15,1),(17,1),(19,1),(21,1),(22,3),(23,3),(24,3),(25,0),(28,0),(30,3),(32,0),(35,0),(37,3),(26,1),(27,1),(29,1),(31,1),(33,1),(34,1),(36,1),(38,1),(39,3),(40,3),(41,3),(42,1),(43,3),(44,3)] mixed (by kernel_rfl) (fun w_4 hE_ _=>?_)
 replace hB1:=hB1.ext hE_
 replace hB2:=hB2.ext hE_
 replace hIr:=hIr.ext hE_
 replace hX:=hX.trans hE_
 clear hE_
 refine gh ?_
 refine gh ?_
 refine R1_call1 (verify_ok _ _ _ r r2 r3 60 len len2 len3 G Hh Tt w_4 (hA.ext hX) (hh.ext hX) (hT.ext hX) (by decide) (by decide)) ?_
 rintro _ w_5 ⟨hE_,rfl⟩
 refine ⟨hE_,?_⟩
 replace hB1:=hB1.ext hE_
 replace hB2:=hB2.ext hE_
 replace hIr:=hIr.ext hE_
 replace hX:=hX.trans hE_
 clear hE_
 refine gh ?_
 refine R1_call1 (rverify_ok _ _ _ r r2 r3 60 len len2 len3 G Hh Tt w_5 (hA.ext hX) (hh.ext hX) (hT.ext hX) (by decide) (by decide)) ?_
 rintro _ w_6 ⟨hE_,rfl⟩
 refine ⟨hE_,?_⟩
 replace hB1:=hB1.ext hE_
 replace hB2:=hB2.ext hE_
 replace hIr:=hIr.ext hE_
 replace hX:=hX.trans hE_
 clear hE_
 generalize verE r len G r2 len2 Hh r3 len3 Tt = e1
 obtain ⟨x0,x1,x2,x3⟩:=blkQ hB1
 obtain ⟨y0,y1,y2,y3⟩:=blkQ hB2
 refine gh ?_
 refine R1_load4E (by decide) agg_Lat rfl x0 x1 x2 x3 ?_
 refine gh ?_
 refine R1_load4E (by decide) agg_Lat rfl y0 y1 y2 y3 ?_
 refine gh ?_
 refine R1_load4E (by decide) agg_Lat rfl x0 x1 x2 x3 ?_
 refine gh ?_
 refine R1_load4E (by decide) agg_Lat rfl y0 y1 y2 y3 ?_
 clear x0 x1 x2 x3 y0 y1 y2 y3
 refine gh ?_
 refine R1_call1 (latRawD_ok _ dx kx q m 4 ns ms w_6 (hL w_6 hX) (by decide) (by decide)) ?_
 rintro _ w_7 ⟨hE_,g2,gs2,rfl,_,_,hR,_,_,bR⟩
 refine ⟨hE_,?_⟩
 replace hB1:=hB1.ext hE_
 replace hB2:=hB2.ext hE_
 replace hIr:=hIr.ext hE_
 replace hX:=hX.trans hE_
 clear hE_
 rw [← hn] at hR bR ⊢
 obtain ⟨M,hM⟩ : ∃ M,M = rawM kx q ns m ms n:=⟨_,rfl⟩
 rw [← hM] at hR bR
 have hRr:=MatE.mono (hR.rd bR (Nat.le_refl _) (by omega) (by omega)) (show 5≤60 by decide)
 refine gh ?_
 refine R1_call1 (latFormD_ok _ dy ky q' m' 4 ns' ms' w_7 (hLy w_7 hX) (by decide) (by decide)) ?_
 rintro _ w_8 ⟨hE_,g3,gs3,H,hHs,rfl,_,_,hZ,_,hZl⟩
 refine ⟨hE_,?_⟩
 replace hB1:=hB1.ext hE_
 replace hB2:=hB2.ext hE_
 replace hIr:=hIr.ext hE_
 replace hR:=hR.ext hE_
 replace hRr:=hRr.ext hE_
 replace hX:=hX.trans hE_
 clear hE_
 rw [← hn2] at hHs hZ hZl ⊢
 have hZr:=hZ.read (fun i j hi hj=>by have:=hZl i j hi hj; omega) (by omega) (by omega)
 refine gh ?_
 refine R1_call1 (verify_ok _ _ _ n n2 r3 60 (fun _=>n) (fun _=>n2) len3 M H Tt w_8 hRr hZr (hT.ext hX) (by decide) (by decide)) ?_
 rintro _ w_9 ⟨hE_,rfl⟩
 refine ⟨hE_,?_⟩
 replace hB1:=hB1.ext hE_
 replace hB2:=hB2.ext hE_
 replace hIr:=hIr.ext hE_
 replace hR:=hR.ext hE_
 replace hRr:=hRr.ext hE_
 replace hZ:=hZ.ext hE_
 replace hZr:=hZr.ext hE_
 replace hX:=hX.trans hE_
 clear hE_
 refine gh ?_
 refine R1_call1 (latRawD_ok _ dx kx q m 4 ns ms w_9 (hL w_9 hX) (by decide) (by decide)) ?_
 rintro _ w_10 ⟨hE_,g4,gs4,rfl,_,_,hR2,_,_,bR2⟩
 refine ⟨hE_,?_⟩
 replace hB1:=hB1.ext hE_
 replace hB2:=hB2.ext hE_
 replace hIr:=hIr.ext hE_
 replace hX:=hX.trans hE_
 clear hE_
 rw [← hn,← hM] at hR2 bR2
 rw [← hn]
 have hRr2:=MatE.mono (hR2.rd bR2 (Nat.le_refl _) (by omega) (by omega)) (show 5≤60 by decide)
 refine gh ?_
 refine R1_call1 (latFormD_ok _ dy ky q' m' 4 ns' ms' w_10 (hLy w_10 hX) (by decide) (by decide)) ?_
 rintro _ w_11 ⟨hE_,g5,gs5,H2,hHs2,rfl,_,_,hZ2,_,hZl2⟩
 refine ⟨hE_,?_⟩
 replace hB1:=hB1.ext hE_
 replace hB2:=hB2.ext hE_
 replace hIr:=hIr.ext hE_
 replace hR2:=hR2.ext hE_
 replace hRr2:=hRr2.ext hE_
 replace hX:=hX.trans hE_
 clear hE_
 rw [← hn2] at hHs2 hZ2 hZl2 ⊢
 obtain rfl:=hHs.unique hHs2
 have hZr2:=hZ2.read (fun i j hi hj=>by have:=hZl2 i j hi hj; omega) (by omega) (by omega)
 refine gh ?_
 refine R1_call1 (rverify_ok _ _ _ n n2 r3 60 (fun _=>n) (fun _=>n2) len3 M H Tt w_11 hRr2 hZr2 (hT.ext hX) (by decide) (by decide)) ?_
 rintro _ w_12 ⟨hE_,rfl⟩
 refine ⟨hE_,?_⟩
 replace hB1:=hB1.ext hE_
 replace hB2:=hB2.ext hE_
 replace hIr:=hIr.ext hE_
 replace hR2:=hR2.ext hE_
 replace hRr2:=hRr2.ext hE_
 replace hZ2:=hZ2.ext hE_
 replace hZr2:=hZr2.ext hE_
 replace hX:=hX.trans hE_
 clear hE_
 generalize verE n (fun _=>n) M n2 (fun _=>n2) H r3 len3 Tt = e2
 obtain ⟨x0,x1,x2,x3⟩:=blkQ hB1
 refine gh ?_
 refine R1_load4E (by decide) agg_Lat rfl x0 x1 x2 x3 ?_
 refine gh ?_
 refine R1_load4E (by decide) agg_Lat rfl x0 x1 x2 x3 ?_
 refine gh ?_
 refine R1_load4E (by decide) agg_Lat rfl x0 x1 x2 x3 ?_
 refine gh ?_
 refine R1_load4E (by decide) agg_Lat rfl x0 x1 x2 x3 ?_
 clear x0 x1 x2 x3
 have b2:∀ H:Nat→Nat→Int,(∀ i j,i < n→j < n→-262144 < H i j∧H i j < 262144)→∀ i j,i < n→j < n→Bd 2 (H i j):=fun H h i j hi hj=>by
  have:=h i j hi hj
  exact zbd (by omega) (by omega)
 refine gh ?_
 refine R1_call1 (latFormD_ok _ dx kx q m 4 ns ms w_12 (hL w_12 hX) (by decide) (by decide)) ?_
 rintro _ w_13 ⟨hE_,g6,gs6,F,hFs,rfl,_,_,hF,_,hFl⟩
 refine ⟨hE_,?_⟩
 replace hB1:=hB1.ext hE_
 replace hB2:=hB2.ext hE_
 replace hIr:=hIr.ext hE_
 replace hX:=hX.trans hE_
 clear hE_
 rw [← hn] at hFs hF hFl ⊢
 have hFr:=hF.read (fun i j hi hj=>by have:=hFl i j hi hj; omega) (by omega) (by omega)
 refine gh ?_
 refine R1_call1 (ofT_ok8 hFr hn1 (by omega)) ?_
 rintro _ w_14 ⟨hE_,g7,gs7,rfl,hO⟩
 refine ⟨hE_,?_⟩
 replace hB1:=hB1.ext hE_
 replace hB2:=hB2.ext hE_
 replace hIr:=hIr.ext hE_
 replace hF:=hF.ext hE_
 replace hFr:=hFr.ext hE_
 replace hX:=hX.trans hE_
 clear hE_
 have hOr:=MatE.mono (hO.rd (b2 F hFl) (Nat.le_refl _) (by omega) (by omega)) (show 2≤60 by decide)
 refine gh ?_
 refine R1_call1 (latOtherD_ok _ dx kx q m 4 ns ms w_14 (hL w_14 hX) (by decide) (by decide)) ?_
 rintro _ w_15 ⟨hE_,g8,gs8,K,hKs,rfl,_,_,hK,_,hKl⟩
 refine ⟨hE_,?_⟩
 replace hB1:=hB1.ext hE_
 replace hB2:=hB2.ext hE_
 replace hIr:=hIr.ext hE_
 replace hF:=hF.ext hE_
 replace hFr:=hFr.ext hE_
 replace hO:=hO.ext hE_
 replace hOr:=hOr.ext hE_
 replace hX:=hX.trans hE_
 clear hE_
 rw [← hn] at hKs hK hKl ⊢
 have hKr:=hK.read (fun i j hi hj=>by have:=hKl i j hi hj; omega) (by omega) (by omega)
 refine gh ?_
 refine R1_call1 (verify_ok _ _ _ n n n 60 (fun _=>n) (fun _=>n) (fun _=>n) F K one w_15 hOr hKr hIr (by decide) (by decide)) ?_
 rintro _ w_16 ⟨hE_,rfl⟩
 refine ⟨hE_,?_⟩
 replace hB1:=hB1.ext hE_
 replace hB2:=hB2.ext hE_
 replace hIr:=hIr.ext hE_
 replace hF:=hF.ext hE_
 replace hFr:=hFr.ext hE_
 replace hO:=hO.ext hE_
 replace hOr:=hOr.ext hE_
 replace hK:=hK.ext hE_
 replace hKr:=hKr.ext hE_
 replace hX:=hX.trans hE_
 clear hE_
 refine gh ?_
 refine R1_call1 (latFormD_ok _ dx kx q m 4 ns ms w_16 (hL w_16 hX) (by decide) (by decide)) ?_
 rintro _ w_17 ⟨hE_,g9,gs9,F2,hFs2,rfl,_,_,hF2,_,hFl2⟩
 refine ⟨hE_,?_⟩
 replace hB1:=hB1.ext hE_
 replace hB2:=hB2.ext hE_
 replace hIr:=hIr.ext hE_
 replace hX:=hX.trans hE_
 clear hE_
 rw [← hn] at hFs2 hF2 hFl2 ⊢
 obtain rfl:=hFs.unique hFs2
 have hFr2:=hF2.read (fun i j hi hj=>by have:=hFl2 i j hi hj; omega) (by omega) (by omega)
 refine gh ?_
 refine R1_call1 (ofT_ok8 hFr2 hn1 (by omega)) ?_
 rintro _ w_18 ⟨hE_,g10,gs10,rfl,hO2⟩
 refine ⟨hE_,?_⟩
 replace hB1:=hB1.ext hE_
 replace hB2:=hB2.ext hE_
 replace hIr:=hIr.ext hE_
 replace hF2:=hF2.ext hE_
 replace hFr2:=hFr2.ext hE_
 replace hX:=hX.trans hE_
 clear hE_
 have hOr2:=MatE.mono (hO2.rd (b2 F hFl2) (Nat.le_refl _) (by omega) (by omega)) (show 2≤60 by decide)
 refine gh ?_
 refine R1_call1 (latOtherD_ok _ dx kx q m 4 ns ms w_18 (hL w_18 hX) (by decide) (by decide)) ?_
 rintro _ w_19 ⟨hE_,g11,gs11,K2,hKs2,rfl,_,_,hK2,_,hKl2⟩
 refine ⟨hE_,?_⟩
 replace hB1:=hB1.ext hE_
 replace hB2:=hB2.ext hE_
 replace hIr:=hIr.ext hE_
 replace hF2:=hF2.ext hE_
 replace hFr2:=hFr2.ext hE_
 replace hO2:=hO2.ext hE_
 replace hOr2:=hOr2.ext hE_
 replace hX:=hX.trans hE_
 clear hE_
 rw [← hn] at hKs2 hK2 hKl2 ⊢
 obtain rfl:=hKs.unique hKs2
 have hKr2:=hK2.read (fun i j hi hj=>by have:=hKl2 i j hi hj; omega) (by omega) (by omega)
 refine gh ?_
 refine R1_call1 (rverify_ok _ _ _ n n n 60 (fun _=>n) (fun _=>n) (fun _=>n) F K one w_19 hOr2 hKr2 hIr (by decide) (by decide)) ?_
 rintro _ w_20 ⟨hE_,rfl⟩
 refine ⟨hE_,?_⟩
 replace hB1:=hB1.ext hE_
 replace hB2:=hB2.ext hE_
 replace hIr:=hIr.ext hE_
 replace hF2:=hF2.ext hE_
 replace hFr2:=hFr2.ext hE_
 replace hO2:=hO2.ext hE_
 replace hOr2:=hOr2.ext hE_
 replace hK2:=hK2.ext hE_
 replace hKr2:=hKr2.ext hE_
 replace hX:=hX.trans hE_
 clear hE_
 generalize verE n (fun _=>n) F n (fun _=>n) K n (fun _=>n) one = e3
 refine gh ?_
 refine R1_call1 (awake8_ok w_20) ?_
 rintro _ w_21 ⟨hE_,rfl⟩
 refine ⟨hE_,?_⟩
 replace hB1:=hB1.ext hE_
 replace hB2:=hB2.ext hE_
 replace hIr:=hIr.ext hE_
 replace hF2:=hF2.ext hE_
 replace hFr2:=hFr2.ext hE_
 replace hO2:=hO2.ext hE_
 replace hOr2:=hOr2.ext hE_
 replace hK2:=hK2.ext hE_
 replace hKr2:=hKr2.ext hE_
 replace hX:=hX.trans hE_
 clear hE_
 refine gh ?_
 exact ret1 (v:=.bool _) rfl rfl ⟨hX,rfl⟩
end Go.Proofs.YtmkbpjoihdfpkaaGreat
