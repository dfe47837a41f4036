/- Joined: Uni, Oph. -/
import Derived.Test.YtncbjgblcofddaaGreatDoorQf
import Derived.Test.YtncbjgblcofddaaGreatDoorQh
/- quadformmake: Below,Unimodular. -/
namespace Go.Proofs.YtncbjgblcofddaaGreatDoor
open Go Go.Eng Go.Num Go.Proofs
def uop (i j:Nat) (c:Int) (U:Nat→Nat→Int):Nat→Nat→Int:=fun r q =>
 if i = j then (if c < 0 then (if q = i then -U r q else U r q) else U r q)
 else if c = 0 then (if q = i then U r j else if q = j then U r i else U r q)
 else (if q = i then U r i + c * U r j else U r q)
theorem det_uop {n i j:Nat} (c:Int) (U:Nat→Nat→Int) (hi:i < n) (hj:j < n) (h:Go.Det.det n U = 1 ∨ Go.Det.det n U = -1):Go.Det.det n (uop i j c U) = 1 ∨ Go.Det.det n (uop i j c U) = -1:=by
 have hma:=Go.Det.ma_det n
 have ht:∀ A,Go.Det.det n (Go.Det.tr A) = Go.Det.det n A:=Go.Det.det_tr n
 rw [← ht] at h
 rw [← ht (uop i j c U)]
 by_cases e:i = j
 · by_cases hc:c < 0
   · have:Go.Det.tr (uop i j c U) = Go.Det.setR (Go.Det.tr U) i fun q=>-1 * Go.Det.tr U i q:=by
      funext a b
      simp only [Go.Det.tr,uop,Go.Det.setR,if_pos e,if_pos hc]
      split
      · rename_i h'; subst h'; omega
      · rfl
     rw [this,hma.smul _ i _ _ hi,Go.Det.setR_self]; omega
   · have:uop i j c U = U:=by funext a b; simp only [uop,if_pos e,if_neg hc]
     rw [this]; exact h
 · by_cases hc:c = 0
   · have:Go.Det.tr (uop i j c U) = Go.Det.swp2 i j (Go.Det.tr U):=by
      funext a b
      simp only [Go.Det.tr,uop,Go.Det.swp2,if_neg e,if_pos hc]
      split
      · rfl
      · split <;> rfl
     rw [this,hma.swap _ i j hi hj e]; omega
   · have:Go.Det.tr (uop i j c U) = Go.Det.setR (Go.Det.tr U) i fun q=>Go.Det.tr U i q + c * Go.Det.tr U j q:=by
      funext a b
      simp only [Go.Det.tr,uop,Go.Det.setR,if_neg e,if_neg hc]
     rw [this,hma.addRow _ i j c hi hj e]; exact h
theorem abs_mul_le {a c:Int} {N:Nat} (ha:a.natAbs≤N) (hc:-2≤c∧c≤2):(c * a).natAbs≤2 * N:=by
 rw [Int.natAbs_mul]
 have:c.natAbs≤2:=by omega
 exact Nat.mul_le_mul this ha
theorem uop_le {i j n N:Nat} {c:Int} {U:Nat→Nat→Int} (hi:i < n) (hj:j < n) (hc:-2≤c∧c≤2) (h:∀ a b,a < n→b < n→(U a b).natAbs≤N):∀ a b,a < n→b < n→(uop i j c U a b).natAbs≤3 * N:=fun a b ha hb=>by
 have h1:=h a b ha hb
 have h2:=h a i ha hi
 have h3:=h a j ha hj
 have h4:=abs_mul_le h3 hc
 unfold uop
 split
 · split
   · split <;> omega
   · omega
 · split
   · split
     · omega
     · split <;> omega
   · split <;> omega
theorem ZMat.put {w w':World} {gO:Nat} {gs:Nat→Nat} {r c i j:Nat} {M:Nat→Nat→Int} {z:Int} (h:ZMat w gO gs r c M) (hi:i < r) (hB:RowW w' (gs i) c (setZ (M i) j z)) (hC:Ch (fun b=>b = gs i) w w'):ZMat w' gO gs r c (set2 M i j z):=by
 refine ⟨h.outer.ch hC (Ne.symm (h.ne i hi)),fun a ha=>?_,h.ne,h.inj⟩
 by_cases e:a = i
 · subst e; rw [set2_row]; exact hB
 · rw [set2_ne _ _ _ e]
   exact Blk.ch (h.row a ha) hC (fun e'=>e (h.inj a i ha hi e'))
theorem ZMat.ch {w w':World} {gO:Nat} {gs:Nat→Nat} {r c:Nat} {M:Nat→Nat→Int} {MM:Nat→Prop} (h:ZMat w gO gs r c M) (hC:Ch MM w w') (hn:¬ MM gO) (hr:∀ i,i < r→¬ MM (gs i)):ZMat w' gO gs r c M :=
 ⟨h.outer.ch hC hn,fun i hi=>Blk.ch (h.row i hi) hC (hr i hi),h.ne,h.inj⟩
theorem ZMat.congr {w:World} {gO:Nat} {gs:Nat→Nat} {r c:Nat} {M M':Nat→Nat→Int} (h:ZMat w gO gs r c M) (e:∀ i j,i < r→j < c→M i j = M' i j):ZMat w gO gs r c M' :=
 ⟨h.outer,fun i hi=>(h.row i hi).congr fun j hj=>e i j hi hj,h.ne,h.inj⟩
theorem ZMat.at {w:World} {gO:Nat} {gs:Nat→Nat} {r c i:Nat} {M:Nat→Nat→Int} (h:ZMat w gO gs r c M) (hi:i < r):w.cell? ⟨gO,0 + i * 1,none⟩ = some (.slice (some ⟨gs i,0,none⟩) c c):=by
 rw [h.outer.cell,arr_at (by omega),Nat.zero_add,Nat.mul_one]
theorem RowW.at {w:World} {g c j:Nat} {M:Nat→Int} (h:RowW w g c M) (hj:j < c):w.cell? ⟨g,0 + j * 1,none⟩ = some (.int .i64 (M j)):=by
 unfold RowW at h; rw [h.cell,arr_at (by omega),Nat.zero_add,Nat.mul_one]
theorem tapeB_at {w:World} {g:Nat} {A:Option Addr} {n c k:Nat} (h:TapeB w g A n c k):w.cell? ⟨g,0 + 0,none⟩ = some (.slice A n c)∧w.cell? ⟨g,0 + 1,none⟩ = some (.int .i64 ((min k n:Nat):Int)):=⟨blk0 h,blk1 h⟩
set_option maxHeartbeats 8000000 in
theorem below_ok (g:Nat) (A:Option Addr) (n c k m:Nat) (ns:Nat→Int) (w0 w:World) (hE0:Ext w0 w) (hN:Nums w0 A n ns) (hg:w0.heap.size≤g) (hB:TapeB w g A n c k) (hm:0 < m) (_hm2:m < 4294967296) :
 Meets Tryz.prog 114 #[.pointer (some ⟨g,0,none⟩),.int .i64 ((m:Nat):Int)] w fun v w'=>(∃ b:Nat,v = .int .i64 ((b:Nat):Int)∧b < m)∧TapeB w' g A n c (k + 1)∧Ch (fun b=>b = g) w w'∧Kp w w':=by
 refine fn_W (n:=11) Tryz.func114 rfl rfl (by kernel_rfl) (by simp) ?_
 refine gg ?_
 refine R1_call2 (next_ok g A n c k ns w0 w hE0 hN hg hB) ?_
 rintro _ w1 ⟨rfl,hT1,hC1,hk1⟩
 have hr:=tp_range hN k
 obtain ⟨b,hb,hb2⟩ : ∃ b:Nat,tp n ns k % 256 = ((b:Nat):Int)∧b < 256:=⟨(tp n ns k % 256).toNat,by omega,by omega⟩
 refine gg ?_
 refine R1_conv (k1:=.i64) (b:=((b:Nat):Int)) ty_i64 ty_u8 rfl (by rw [IntKind.wrap_u8]; omega) ?_
 refine gg ?_
 refine R1_rem_i64 rfl rfl hm ?_
 refine gg ?_
 exact ret1 rfl rfl ⟨⟨b % m,rfl,Nat.mod_lt b hm⟩,hT1,hC1,hk1⟩
def RU (w:World) (n:Nat) (v:Value) (w':World):Prop :=
 Ext w w'∧∃ gO gs U,v = .slice (some ⟨gO,0,none⟩) n n∧w.heap.size≤gO∧(∀ i,i < n→w.heap.size≤gs i)∧ZMat w' gO gs n n U∧(∀ i j,i < n→j < n→(U i j).natAbs≤531441)∧(Go.Det.det n U = 1 ∨ Go.Det.det n U = -1)
set_option maxHeartbeats 16000000 in
theorem unimodular_ok (A:Option Addr) (m cap n:Nat) (ns:Nat→Int) (w:World) (hN:Nums w A m ns) (hn1:1≤n) (hn:n≤16) :
 Meets Tryz.prog 57 #[.slice A m cap,.int .i64 ((n:Nat):Int)] w (RU w n):=by
 refine fn_W (n:=145) Tryz.func57 rfl rfl (by kernel_rfl) (by simp) ?_
 refine gg ?_
 refine R1_make sl_si64 (.inl rfl) rfl rfl (Nat.le_refl _) (by omega) (by omega) ?_
 intro w1 hB1 hE1 hs1
 obtain ⟨gO,hgO⟩ : ∃ g,g = w.heap.size:=⟨_,rfl⟩
 rw [← hgO] at hB1 ⊢
 have hO1:Outer 85 w1 gO n 0 n (fun _=>0):=outer_made hB1
 clear hB1
 refine gg ?_
 refine W_seqM (fun f w'=>∃ gs,f 0 = .slice A m cap∧f 1 = .int .i64 ((n:Nat):Int)∧f 5 = .slice (some ⟨gO,0,none⟩) n n∧Ext w w'∧ZMat w' gO gs n n Go.Det.one∧∀ k,k < n→gO < gs k) ?_ ?_
 · refine gg ?_
   refine W_loop (fun q f w'=>∃ i gs,q = n - i∧i≤n∧f 0 = .slice A m cap∧f 1 = .int .i64 ((n:Nat):Int)∧f 5 = .slice (some ⟨gO,0,none⟩) n n∧f 16 = .int .i64 ((n:Nat):Int)∧f 17 = .int .i64 ((i:Nat):Int)∧Ext w w'∧Outer 85 w' gO n i n gs∧(∀ k,k < i→RowW w' (gs k) n (Go.Det.one k)∧gO < gs k)∧(∀ k k',k < i→k' < i→gs k = gs k'→k = k'))
    n ⟨0,fun _=>0,rfl,Nat.zero_le _,rfl,rfl,rfl,rfl,rfl,hE1,hO1,fun k hk=>absurd hk (by omega),fun k k' hk=>absurd hk (by omega)⟩ ?_
   clear hE1 hO1 hs1 w1
   rintro q f w1 ⟨i,gs,rfl,hi,hf0,hf1,hf5,hf16,hf17,hE,hO,hrow,hinj⟩
   rw [ui hf0,ui hf1,ui hf5,ui hf16,ui hf17]
   clear hf0 hf1 hf5 hf16 hf17
   by_cases hlt:i < n
   · have hOl:=hO.lt
     refine gg ?_
     refine R1_make sl_i64 (.inl rfl) rfl rfl (Nat.le_refl _) (by omega) (by omega) ?_
     intro w2 hB2 hE2 hs2
     have hr2:=rowW_made hB2
     obtain ⟨g,hg⟩ : ∃ g,g = w1.heap.size:=⟨_,rfl⟩
     rw [← hg] at hr2 ⊢
     clear hB2
     refine gg ?_
     refine R1_storeRow (one_of rfl) (.inl rfl) rfl rfl (hO.ext hE2) hlt ?_
     intro w3 ⟨_,hO3⟩ hC3 hk3 hs3
     have hO3:=hO3 rfl
     have hx3:=hO3.at (k:=i) (by omega) hlt
     rw [show setN gs i g i = g by simp [setN]] at hx3
     have hr3:RowW w3 g n _:=Blk.ch hr2 hC3 (by omega)
     have hE3:Ext w w3:=hC3.ext_of (hE.trans hE2) (fun b hb=>by omega)
     refine gg ?_
     refine R1_storeI (one_of rfl) (.inl rfl) rfl rfl hr3 (by rw [arr_size]; omega) ?_
     intro w4 hB4 hC4 hs4
     have hr4:=RowW.set hB4
     have hgO':gO < g:=by omega
     refine gg ?_
     refine ⟨_,?_,i + 1,setN gs i g,rfl,by omega,rfl,rfl,rfl,rfl,rfl,hC4.ext_of hE3 (fun b hb=>by omega),hO3.kp hC4 (by omega),fun k hk=>?_,fun k k' hk hk' e=>?_⟩
     · omega
     · by_cases e:k = i
       · subst e
         simp only [setN,if_true]
         refine ⟨hr4.congr fun b hb=>?_,hgO'⟩
         unfold setZ Go.Det.one
         by_cases e:b = k
         · rw [if_pos e,if_pos e.symm]
         · rw [if_neg e,if_neg (Ne.symm e)]
       · simp only [setN,if_neg e]
         obtain ⟨h1,h2⟩:=hrow k (by omega)
         have hl:gs k < w1.heap.size:=Blk.lt h1
         exact ⟨Blk.ch (Blk.ch (Blk.ext h1 hE2) hC3 (by omega)) hC4 (by omega),h2⟩
     · have hl:∀ k,k < i→gs k < w1.heap.size:=fun k hk=>Blk.lt (hrow k hk).1
       simp only [setN] at e
       split at e <;> split at e
       · omega
       · have:=hl k' (by omega); omega
       · have:=hl k (by omega); omega
       · exact hinj k k' (by omega) (by omega) e
   · refine gg ?_
     obtain rfl:i = n:=by omega
     exact ⟨gs,rfl,rfl,rfl,hE,⟨hO.full,fun k hk=>(hrow k hk).1,fun k hk=>by have:=(hrow k hk).2; omega,hinj⟩,fun k hk=>(hrow k hk).2⟩
 clear hE1 hO1 hs1 w1
 rintro f w1 ⟨gs,hf0,hf1,hf5,hE,hZ,hgs⟩
 rw [ui hf0,ui hf1,ui hf5]
 clear hf0 hf1 hf5
 refine gg ?_
 refine R1_bldTape rfl ?_
 refine gg ?_
 refine R1_box (v:=.agg _) (.inl rfl) rfl ?_
 intro w2 hB2 hE2 hs2
 have hT2:TapeB w2 w1.heap.size A m cap 0:=by unfold TapeB; rw [Nat.zero_min]; exact hB2
 obtain ⟨gT,hgT⟩ : ∃ g,g = w1.heap.size:=⟨_,rfl⟩
 rw [← hgT] at hT2 ⊢
 have hZ2:=hZ.ext hE2
 have hsep:gO ≠ gT∧(∀ k,k < n→gs k ≠ gT):=⟨by have:=hZ.outer.lt; omega,fun k hk=>by have:gs k < w1.heap.size:=Blk.lt (hZ.row k hk); omega⟩
 have hEs:=hE.size
 have hTw:w.heap.size≤gT:=by omega
 have hE2':=hE.trans hE2
 clear hB2 hZ hE2 hE hs2 hgT hEs
 refine gg ?_
 refine W_seqM (fun f w'=>∃ U,f 5 = .slice (some ⟨gO,0,none⟩) n n∧Ext w w'∧ZMat w' gO gs n n U∧(∀ i j,i < n→j < n→(U i j).natAbs≤531441)∧(Go.Det.det n U = 1 ∨ Go.Det.det n U = -1)) ?_ ?_
 · refine gg ?_
   refine W_loop (fun q f w'=>∃ k tk U,q = 12 - k∧k≤12∧f 1 = .int .i64 ((n:Nat):Int)∧f 5 = .slice (some ⟨gO,0,none⟩) n n∧f 7 = .pointer (some ⟨gT,0,none⟩)∧f 8 = .int .i64 ((k:Nat):Int)∧Ext w w'∧ZMat w' gO gs n n U∧TapeB w' gT A m cap tk∧(∀ i j,i < n→j < n→(U i j).natAbs≤3 ^ k)∧(Go.Det.det n U = 1 ∨ Go.Det.det n U = -1))
    12 ⟨0,0,Go.Det.one,rfl,Nat.zero_le _,rfl,rfl,rfl,rfl,hE2',hZ2,hT2,fun i j _ _=>by unfold Go.Det.one; split <;> decide,.inl (Go.Det.det_one n)⟩ ?_
   clear hE2' hZ2 hT2 w2 w1
   rintro q f w1 ⟨k,tk,U,rfl,hk,hf1,hf5,hf7,hf8,hE,hZ,hT,hU,hd⟩
   rw [ui hf1,ui hf5,ui hf7,ui hf8]
   clear hf1 hf5 hf7 hf8
   have hexit:∀ w2,Ext w1 w2→∃ U,Value.slice (some ⟨gO,0,none⟩) n n = .slice (some ⟨gO,0,none⟩) n n∧Ext w w2∧ZMat w2 gO gs n n U∧(∀ i j,i < n→j < n→(U i j).natAbs≤531441)∧(Go.Det.det n U = 1 ∨ Go.Det.det n U = -1):=fun w2 hE2 =>
    ⟨U,rfl,hE.trans hE2,hZ.ext hE2,fun i j hi hj=>Nat.le_trans (hU i j hi hj) (Nat.le_trans (Nat.pow_le_pow_right (by decide) hk) (by decide)),hd⟩
   refine W_seq ?_
   refine W_seqD [(0,3),(1,3),(2,3),(3,3),(4,3),(5,3),(6,0),(7,3),(8,3),(9,3),(10,0),(11,3),(12,3),(13,3)] mixed (by kernel_rfl) (fun w2 hE2 _=>?_)
   obtain ⟨ht0,ht1⟩:=tapeB_at (hT.ext hE2)
   by_cases hk12:k < 12
   · by_cases hmore:min tk m < m
     · refine gg ?_
       clear ht0 ht1 hexit
       refine R1_call2 (below_ok gT A m cap tk n ns w w2 (hE.trans hE2) hN hTw (hT.ext hE2) (by omega) (by omega)) ?_
       rintro _ w3 ⟨⟨i,rfl,hi⟩,hT3,hC3,-⟩
       have hE3:Ext w w3:=hC3.ext_of (hE.trans hE2) (fun b hb=>by omega)
       have hZ3:=(hZ.ext hE2).ch hC3 hsep.1 (fun k hk=>hsep.2 k hk)
       refine gg ?_
       refine R1_call2 (below_ok gT A m cap (tk + 1) n ns w w3 hE3 hN hTw hT3 (by omega) (by omega)) ?_
       rintro _ w4 ⟨⟨j,rfl,hj⟩,hT4,hC4,-⟩
       have hE4:Ext w w4:=hC4.ext_of hE3 (fun b hb=>by omega)
       have hZ4:=hZ3.ch hC4 hsep.1 (fun k hk=>hsep.2 k hk)
       refine gg ?_
       refine R1_call2 (next_ok gT A m cap (tk + 1 + 1) ns w w4 hE4 hN hTw hT4) ?_
       rintro _ w5 ⟨rfl,hT5,hC5,-⟩
       have hE5:Ext w w5:=hC5.ext_of hE4 (fun b hb=>by omega)
       have hZ5:=hZ4.ch hC5 hsep.1 (fun k hk=>hsep.2 k hk)
       have htr:=tp_range hN (tk + 1 + 1)
       obtain ⟨c,hc⟩ : ∃ c,c = (tp m ns (tk + 1 + 1)).tmod 3:=⟨_,rfl⟩
       have hc2:-2≤c∧c≤2:=by
        have h1:=Int.tmod_lt_of_pos (tp m ns (tk + 1 + 1)) (show (0:Int) < 3 by decide)
        have h2:=Int.tmod_lt_of_pos (-(tp m ns (tk + 1 + 1))) (show (0:Int) < 3 by decide)
        rw [Int.neg_tmod] at h2
        omega
       refine gg ?_
       refine R1_rem_z rfl rfl (by decide) ?_
       rw [show (tp m ns (tk + 1 + 1)).tmod 3 = c from hc.symm]
       have hpow:3 ^ k≤3 ^ 11:=Nat.pow_le_pow_right (by decide) (by omega)
       have hpv:(3:Nat) ^ 11 = 177147:=by decide
       have hUop:=uop_le hi hj hc2 hU
       have hdop:=det_uop c U hi hj hd
       clear hZ3 hZ4 hT3 hT4 hE3 hE4 hC3 hC4 hC5 hZ hT hE hE2 hc htr
       refine gg ?_
       refine W_loop (fun q f w'=>∃ r,q = n - r∧r≤n∧f 1 = .int .i64 ((n:Nat):Int)∧f 5 = .slice (some ⟨gO,0,none⟩) n n∧f 7 = .pointer (some ⟨gT,0,none⟩)∧f 8 = .int .i64 ((k:Nat):Int)∧f 9 = .int .i64 ((i:Nat):Int)∧f 10 = .int .i64 ((j:Nat):Int)∧f 11 = .int .i64 (c)∧f 61 = .int .i64 ((n:Nat):Int)∧f 62 = .int .i64 ((r:Nat):Int)∧Ext w w'∧ZMat w' gO gs n n (fun a b=>if a < r then uop i j c U a b else U a b)∧TapeB w' gT A m cap (tk + 1 + 1 + 1))
        n ⟨0,rfl,Nat.zero_le _,rfl,rfl,rfl,rfl,rfl,rfl,rfl,rfl,rfl,hE5,hZ5.congr fun a b _ _=>by rw [if_neg (by omega)],hT5⟩ ?_
       clear hE5 hZ5 hT5
       rintro q f w1 ⟨r,rfl,hr,hf1,hf5,hf7,hf8,hf9,hf10,hf11,hf61,hf62,hE,hZ,hT⟩
       rw [ui hf1,ui hf5,ui hf7,ui hf8,ui hf9,ui hf10,ui hf11,ui hf61,ui hf62]
       clear hf1 hf5 hf7 hf8 hf9 hf10 hf11 hf61 hf62
       by_cases hrl:r < n
       · have hrow:=hZ.row r hrl
         have hgr:=hgs r hrl
         have hsr:=hsep.2 r hrl
         have hUi:=hU r i hrl hi
         have hUj:=hU r j hrl hj
         have hcU:=abs_mul_le hUj hc2
         by_cases hij:i = j
         · by_cases hc0:c < 0
           · refine gg ?_
             refine W_regD [(0,3),(1,3),(2,3),(3,0),(4,3),(5,3),(6,3),(7,3),(8,0),(9,3),(10,3),(11,0),(12,3),(13,3),(14,2)] mixed (by kernel_rfl) (fun w2 hE2 _=>?_)
             have hx:=(hZ.ext hE2).at hrl
             have hei:=((hZ.ext hE2).row r hrl).at hi
             rw [if_neg (by omega)] at hei
             refine gg ?_
             refine R1_neg_z rfl (by omega) (by omega) ?_
             refine gg ?_
             refine R1_storeI (one_of rfl) (.inl rfl) rfl rfl ((hZ.ext hE2).row r hrl) (by rw [arr_size]; omega) ?_
             intro w3 hB3 hC3 hs3
             have hZ3:=(hZ.ext hE2).put hrl (RowW.set hB3) hC3
             refine gg ?_
             refine ⟨_,?_,r + 1,rfl,by omega,rfl,rfl,rfl,rfl,rfl,rfl,rfl,rfl,rfl,hC3.ext_of (hE.trans hE2) (fun b hb=>by omega),hZ3.congr fun a b _ _=>?_,Blk.ch (hT.ext hE2) hC3 (by omega)⟩
             · omega
             · simp only [set2]
               by_cases e:a = r∧b = i
               · rw [if_pos e,if_pos (by omega)]; unfold uop; rw [if_pos hij,if_pos hc0,if_pos e.2,e.1,e.2]; omega
               · rw [if_neg e]
                 by_cases h1:a < r
                 · rw [if_pos h1,if_pos (by omega)]
                 · rw [if_neg h1]
                   by_cases h2:a < r + 1
                   · rw [if_pos h2]; unfold uop; rw [if_pos hij,if_pos hc0,if_neg (by omega)]
                   · rw [if_neg h2]
           · refine gg ?_
             refine ⟨_,?_,r + 1,rfl,by omega,rfl,rfl,rfl,rfl,rfl,rfl,rfl,rfl,rfl,hE,hZ.congr fun a b _ _=>?_,hT⟩
             · omega
             · by_cases h1:a < r
               · rw [if_pos h1,if_pos (by omega)]
               · rw [if_neg h1]
                 by_cases h2:a < r + 1
                 · rw [if_pos h2]; unfold uop; rw [if_pos hij,if_neg hc0]
                 · rw [if_neg h2]
         · by_cases hc0:c = 0
           · refine gg ?_
             refine W_regD [(0,3),(1,3),(2,3),(3,0),(4,3),(5,3),(6,3),(7,3),(8,0),(9,3),(10,3),(11,3),(12,3),(13,0),(14,3),(15,3),(16,0),(17,3),(18,3),(19,3),(20,0),(21,3),(22,3),(23,0),(24,3),(25,2),(26,3),(27,2)] mixed (by kernel_rfl) (fun w2 hE2 _=>?_)
             have hx:=(hZ.ext hE2).at hrl
             have hei:=((hZ.ext hE2).row r hrl).at hi
             have hej:=((hZ.ext hE2).row r hrl).at hj
             rw [if_neg (by omega)] at hei hej
             refine gg ?_
             refine R1_storeI (one_of rfl) (.inl rfl) rfl rfl ((hZ.ext hE2).row r hrl) (by rw [arr_size]; omega) ?_
             intro w3 hB3 hC3 hs3
             have hZ3:=(hZ.ext hE2).put hrl (RowW.set hB3) hC3
             refine gg ?_
             refine R1_storeI (one_of rfl) (.inl rfl) rfl rfl (hZ3.row r hrl) (by rw [arr_size]; omega) ?_
             intro w4 hB4 hC4 hs4
             have hZ4:=hZ3.put hrl (RowW.set hB4) hC4
             refine gg ?_
             refine ⟨_,?_,r + 1,rfl,by omega,rfl,rfl,rfl,rfl,rfl,rfl,rfl,rfl,rfl,hC4.ext_of (hC3.ext_of (hE.trans hE2) (fun b hb=>by omega)) (fun b hb=>by omega),hZ4.congr fun a b _ _=>?_,Blk.ch (Blk.ch (hT.ext hE2) hC3 (by omega)) hC4 (by omega)⟩
             · omega
             · simp only [set2]
               by_cases e:a = r∧b = j
               · rw [if_pos e,if_pos (by omega)]; unfold uop; rw [if_neg hij,if_pos hc0,if_neg (by omega),if_pos e.2,e.1]
               · rw [if_neg e]
                 by_cases e':a = r∧b = i
                 · rw [if_pos e',if_pos (by omega)]; unfold uop; rw [if_neg hij,if_pos hc0,if_pos e'.2,e'.1]
                 · rw [if_neg e']
                   by_cases h1:a < r
                   · rw [if_pos h1,if_pos (by omega)]
                   · rw [if_neg h1]
                     by_cases h2:a < r + 1
                     · rw [if_pos h2]; unfold uop; rw [if_neg hij,if_pos hc0,if_neg (by omega),if_neg (by omega)]
                     · rw [if_neg h2]
           · refine gg ?_
             refine W_regD [(0,3),(1,3),(2,3),(3,0),(4,3),(5,3),(6,0),(7,3),(8,3),(9,3),(10,3),(11,0),(12,3),(13,3),(14,0),(15,3),(16,3),(17,3),(18,2)] mixed (by kernel_rfl) (fun w2 hE2 _=>?_)
             have hx:=(hZ.ext hE2).at hrl
             have hei:=((hZ.ext hE2).row r hrl).at hi
             have hej:=((hZ.ext hE2).row r hrl).at hj
             rw [if_neg (by omega)] at hei hej
             refine gg ?_
             refine R1_mul_z rfl rfl (by omega) (by omega) ?_
             refine gg ?_
             refine R1_storeI (one_of rfl) (.inl rfl) rfl rfl ((hZ.ext hE2).row r hrl) (by rw [arr_size]; omega) ?_
             intro w3 hB3 hC3 hs3
             have hZ3:=(hZ.ext hE2).put hrl (RowW.set hB3) hC3
             refine gg ?_
             refine ⟨_,?_,r + 1,rfl,by omega,rfl,rfl,rfl,rfl,rfl,rfl,rfl,rfl,rfl,hC3.ext_of (hE.trans hE2) (fun b hb=>by omega),hZ3.congr fun a b _ _=>?_,Blk.ch (hT.ext hE2) hC3 (by omega)⟩
             · omega
             · simp only [set2]
               by_cases e:a = r∧b = i
               · rw [if_pos e,if_pos (by omega)]; unfold uop; rw [if_neg hij,if_neg hc0,if_pos e.2,e.1]
               · rw [if_neg e]
                 by_cases h1:a < r
                 · rw [if_pos h1,if_pos (by omega)]
                 · rw [if_neg h1]
                   by_cases h2:a < r + 1
                   · rw [if_pos h2]; unfold uop; rw [if_neg hij,if_neg hc0,if_neg (by omega)]
                   · rw [if_neg h2]
       · obtain rfl:r = n:=by omega
         refine gg ?_
         refine ⟨_,?_,k + 1,tk + 1 + 1 + 1,uop i j c U,rfl,by omega,rfl,rfl,rfl,rfl,hE,hZ.congr fun a b ha _=>by rw [if_pos ha],hT,fun a b ha hb=>?_,hdop⟩
         · omega
         · have:=hUop a b ha hb; rw [Nat.pow_succ]; omega
     · refine gg ?_
       exact hexit w2 hE2
   · refine gg ?_
     exact hexit w2 hE2
 clear hE2' hZ2 hT2 w2 w1
 rintro f w1 ⟨U,hf5,hE,hZ,hU,hd⟩
 rw [ui hf5]
 clear hf5
 refine gg ?_
 exact ret1 rfl rfl ⟨hE,gO,gs,U,rfl,by omega,fun i hi=>by have:=hgs i hi; omega,hZ,hU,hd⟩
end Go.Proofs.YtncbjgblcofddaaGreatDoor
namespace Go.Proofs.YtncbjgblcofddaaGreatDoor
open Go Go.Eng Go.Num Go.Proofs
def NumsV (w:World) (v:Value) (m:Nat) (ns:Nat→Int):Prop:=∃ A cap,v = .slice A m cap∧m≤cap∧Nums w A m ns
def ByteV (v:Value) (a:Nat):Prop:=v = .int .u8 ((a:Nat):Int)∧a < 256
section
variable {H:Type} {enc:TypeId × Value→H} {w:World} {sp:Nat→Bool} {hd:Bool}
theorem open_nums {v:Value} {d:DataW H} {ps:List MemPlace} (h:DataW.Trod enc Tryz.prog w 0 sp hd 23 v d ps) (hw:Wt 23 d) (hv:v.cells.toList = [v]):∃ m ns,NumsV w v m ns:=by
 obtain ⟨fuel,h⟩:=h
 rw [hv] at h
 obtain ⟨A,n,c,ns,e,hc,hN⟩:=open_i8s h hw
 injection e with e
 subst e
 exact ⟨n,ns,A,c,rfl,hc,hN⟩
theorem int_cells {P:Program} {W:World} {r:Reach} {b t:Nat} {k:IntKind} {v:Value} (hu:P.underlying t = some (.int k)) (h:Value.okWide P W r b t v):v.cells.toList = [v]:=by
 cases v <;> simp [Value.okWide,hu,Cell.okWide,Cell.ok] at h
 rfl
theorem open_byte {v:Value} {d:DataW H} {ps:List MemPlace} (h:DataW.Trod enc Tryz.prog w 0 sp hd 5 v d ps) (hv:v.cells.toList = [v]):∃ a,ByteV v a:=by
 obtain ⟨fuel,h⟩:=h
 rw [hv] at h
 obtain ⟨r,e,hr⟩:=open_u8 h
 exact ⟨r,e,hr⟩
end
end Go.Proofs.YtncbjgblcofddaaGreatDoor
