/- Joined: Sfo, Lgm. -/
import Derived.Test.YtncbjgblcofddaaGreatDoorQpf
import Derived.Test.YtncbjgblcofddaaGreatDoorQn
import Derived.Test.YtncbjgblcofddaaGreatDoorQor
import Derived.Test.YtncbjgblcofddaaGreatDoorQoo
import Derived.Test.YtncbjgblcofddaaGreatDoorQna
import Derived.Test.YtncbjgblcofddaaGreatDoorQos
/- The reference's Smith form: Form. -/
namespace Go.Proofs.YtncbjgblcofddaaGreatDoor
open Go Go.Eng Go.Num Go.Proofs
open Go.Det (sw sw_sw sw_lt)
open Go.Sm (rowP colP red addR Out Rd Mn Dg Sg Eqv Smith Fin rb)
def eb (n e:Nat):Nat→Nat
 | 0=>e
 | k + 1=>eb n e k + 6 * (rb n k (eb n e k) + 1)
theorem eb_le {n e k:Nat} (hn:n≤4) (he:e≤2309) (hk:k≤n):eb n e k < 1099511627776:=by
 have hn':n = 0 ∨ n = 1 ∨ n = 2 ∨ n = 3 ∨ n = 4:=by omega
 have hk':k = 0 ∨ k = 1 ∨ k = 2 ∨ k = 3 ∨ k = 4:=by omega
 rcases hn' with rfl | rfl | rfl | rfl | rfl <;> rcases hk' with rfl | rfl | rfl | rfl | rfl <;> simp [eb,rb] at * <;> omega
theorem bd_pow {E N:Nat} {z:Int} (h:z.natAbs≤2 ^ E) (hE:E < 32 * N):Bd N z:=by
 unfold Bd B
 have h1:(4294967296:Nat) ^ N = 2 ^ (32 * N):=by rw [Nat.pow_mul]
 rw [h1]
 exact Nat.lt_of_le_of_lt h (Nat.pow_lt_pow_right (by decide) hE)
theorem mn_bd {n E N:Nat} {M:Nat→Nat→Int} (h:Mn n (2 ^ E) M) (hE:E < 32 * N):∀ a b,a < n→b < n→Bd N (M a b):=fun _ _ ha hb=>bd_pow (h.entry ha hb) hE
theorem swp_sw' {α:Type} (k p:Nat) (M:Nat→α):swp k p M = fun i=>M (sw k p i):=by
 funext i
 unfold swp sw
 split
 · rfl
 · split <;> rfl
def RSf (w:World) (n:Nat) (M:Nat→Nat→Int) (v:Value) (w':World):Prop :=
 Ext w w'∧∃ gO gs cp D,v = .tuple #[.slice (some ⟨gO,0,none⟩) n n,.bool true]∧GMat w' gO gs cp n n true (fun _ _=>34359738368) D∧Smith n D∧Eqv n M D
set_option maxHeartbeats 32000000 in
theorem sform_ok (va:Value) (n N:Nat) (M:Nat→Nat→Int) (w:World) (ha:MatE (EI N) w va n (fun _=>n) M) (hn1:1≤n) (hn4:n≤4) (hN:N≤18) :
 Meets Tryz.prog 117 #[va] w (RSf w n M):=by
 refine fn_W (n:=107) Tryz.func117 rfl rfl (by kernel_rfl) (by simp) ?_
 have hb0:∀ i j,i < n→j < n→(M i j).natAbs≤2 ^ (32 * N):=fun i j hi hj=>by
  obtain ⟨_,_,_,_,_,h1⟩:=ha.at hi
  obtain ⟨_,_,_,_,_,_,_,h2⟩:=h1.at hj
  have h3:Bd N (M i j):=IV.bd (w:=w) h2
  unfold Bd B at h3
  have h4:(4294967296:Nat) ^ N = 2 ^ (32 * N):=by rw [Nat.pow_mul]
  rw [h4] at h3
  exact Nat.le_of_lt h3
 have hM0:Mn n (2 ^ (4 * (32 * N) + 5)) M:=Mn.start hn4 hb0
 obtain ⟨e0,he0⟩ : ∃ e,e = 4 * (32 * N) + 5:=⟨_,rfl⟩
 rw [← he0] at hM0
 have he:e0≤2309:=by omega
 clear hb0 he0
 have hX:Ext w w:=Ext.refl w
 refine gg ?_
 refine gg ?_
 refine R1_call2 (rshape_ok (EI N) _ n _ M w ha) ?_
 rintro _ w_1 ⟨hE_,rfl⟩
 replace hX:=hX.trans hE_
 clear hE_
 have hok:okM n (fun _=>n) = true:=okM_iff.2 ⟨⟨by omega,by omega,by omega,by omega⟩,fun _ _=>rfl⟩
 rw [shapeV_t hok]
 refine gg ?_
 refine W_seq ?_
 refine gg ?_
 have hsz1:=hX.size
 refine gg ?_
 refine R1_call2 (rcopy_ok _ n n N M w_1 (ha.ext hX) (by omega) (by omega) (by omega) (by omega)) ?_
 rintro _ w_2 ⟨hE_,gO,gs,cp,rfl,hgO,hgs0,hgs1,hW⟩
 replace hX:=hX.trans hE_
 clear hE_
 replace hgO:w.heap.size≤gO:=by omega
 have hgs:∀ i,i < n→w.heap.size≤gs i:=fun i hi=>by have:=hgs0 i hi; omega
 replace hW:=hW.congr (bn':=fun _ _=>34359738368) (fun a b _ _=>⟨by omega,rfl⟩)
 clear hgs0 hgs1 hsz1 ha
 refine gg ?_
 refine W_seq ?_
 refine gg ?_
 refine W_loop (fun m f w'=>∃ k A gs cp,m = n - k∧k≤n∧f 4 = .int .i64 ((n:Nat):Int)∧f 5 = .int .i64 ((n:Nat):Int)∧f 7 = .slice (some ⟨gO,0,none⟩) n n∧f 8 = .int .i64 ((k:Nat):Int)∧Ext w w'∧GMat w' gO gs cp n n true (fun _ _=>34359738368) A∧(∀ i,i < n→w.heap.size≤gs i)∧Sg n k A∧Eqv n M A∧Mn n (2 ^ eb n e0 k) A)
  n ⟨0,M,gs,cp,rfl,Nat.zero_le _,rfl,rfl,rfl,rfl,hX,hW,hgs,Sg.zero n M,Eqv.refl n M,hM0⟩ ?_
 clear hX hW hgs gs cp hM0
 rintro m f w1 ⟨k,A0,gs,cp,rfl,hk,hf4,hf5,hf7,hf8,hX,hW,hgs,hS,hQ,hV⟩
 rw [ui hf4,ui hf5,ui hf7,ui hf8]
 clear hf4 hf5 hf7 hf8
 refine W_seq ?_
 by_cases hkl:k < n
 rotate_left
 · obtain rfl:k = n:=by omega
   refine gg ?_
   exact ret2 (v:=.slice _ _ _) (v':=.bool _) rfl rfl rfl ⟨hX,gO,gs,cp,A0,rfl,hW,hS.smith,hQ⟩
 have hebk:eb n e0 (k + 1) < 1099511627776:=eb_le hn4 he (by omega)
 refine gg ?_
 refine W_seqM (fun f w'=>∃ A gs cp,f 4 = .int .i64 ((n:Nat):Int)∧f 5 = .int .i64 ((n:Nat):Int)∧f 7 = .slice (some ⟨gO,0,none⟩) n n∧f 8 = .int .i64 ((k:Nat):Int)∧Ext w w'∧GMat w' gO gs cp n n true (fun _ _=>34359738368) A∧(∀ i,i < n→w.heap.size≤gs i)∧Sg n (k + 1) (Go.Sm.absK A k)∧Eqv n M (Go.Sm.absK A k)∧Mn n (2 ^ eb n e0 (k + 1)) (Go.Sm.absK A k)∧Bd 34359738368 (A k k)) ?_ ?_
 · refine gg ?_
   refine W_loop (fun m f w'=>∃ r E A gs cp,m = r∧f 4 = .int .i64 ((n:Nat):Int)∧f 5 = .int .i64 ((n:Nat):Int)∧f 7 = .slice (some ⟨gO,0,none⟩) n n∧f 8 = .int .i64 ((k:Nat):Int)∧Ext w w'∧GMat w' gO gs cp n n true (fun _ _=>34359738368) A∧(∀ i,i < n→w.heap.size≤gs i)∧Sg n k A∧Eqv n M A∧Mn n (2 ^ E) A∧E + 6 * (r + 1)≤eb n e0 (k + 1)∧((∃ i j,k≤i∧i < n∧k≤j∧j < n∧A i j ≠ 0)→Fin n k r A))
    (rb n k (eb n e0 k)) ⟨rb n k (eb n e0 k),eb n e0 k,A0,gs,cp,rfl,rfl,rfl,rfl,rfl,hX,hW,hgs,hS,hQ,hV,Nat.le_refl _,fun ⟨i,j,h1,h2,h3,h4,h5⟩=>Go.Sm.fin_rb hn4 hV h1 h2 h3 h4 h5⟩ ?_
   clear hX hW hgs hS hQ hV gs cp A0
   rintro m f w2 ⟨r,E,A0,gs0,cp0,rfl,hf4,hf5,hf7,hf8,hX,hW,hgs0,hS,hQ,hV,hE,hF⟩
   rw [ui hf4,ui hf5,ui hf7,ui hf8]
   clear hf4 hf5 hf7 hf8
   have hX:Ext w w2:=hX
   refine gg ?_
   refine R1_call2 (sfind_ok _ n 34359738368 k A0 w2 (hW.read (by omega) (by omega)) hk (by omega) (by omega)) ?_
   rintro _ w3 ⟨hE3,⟨p,q,rfl,hsel⟩ | ⟨rfl,hall⟩⟩
   rotate_left
   · refine gg ?_
     refine W_seq ?_
     refine gg ?_
     exact ret2 (v:=.slice _ _ _) (v':=.bool _) rfl rfl rfl ⟨hX.trans hE3,gO,gs0,cp0,A0,rfl,hW.ext hE3,hS.rest hall,hQ⟩
   replace hX:=hX.trans hE3
   replace hW:=hW.ext hE3
   clear hE3
   have hp:=hsel.hpn
   have hq:=hsel.hcn
   have hkp:=hsel.hp
   have hkq:=hsel.hc
   refine gg ?_
   refine W_seq ?_
   refine gg ?_
   refine gg ?_
   refine W_seqD [(0,3),(1,3),(2,3),(3,3),(4,3),(5,3),(6,3),(7,0),(8,3),(9,3),(10,3),(11,0),(12,3),(13,2),(14,3),(15,2)] mixed (by kernel_rfl) (fun w_3 hE_ _=>?_)
   replace hW:=hW.ext hE_
   replace hX:=hX.trans hE_
   clear hE_
   have hxp:=hW.at hp
   have hxk:=hW.at hkl
   have hO3:=hW.outer
   refine gg ?_
   refine R1_storeS (one_of rfl) (.inl rfl) rfl rfl hO3 (by rw [arr_size]; omega) ?_
   intro w4 hO4 hC4 hs4
   rw [arr_set] at hO4
   refine gg ?_
   refine R1_storeS (one_of rfl) (.inl rfl) rfl rfl hO4 (by rw [arr_size]; omega) ?_
   intro w5 hO5 hC5 hs5
   rw [arr_set] at hO5
   have hC_:=hC4.trans hC5
   have hk_:=kp_ch hO3 hW.noInt.noU hC_
   have e:upd (upd (fun i=>Value.slice (some ⟨gs0 i,0,none⟩) n (cp0 i)) (0 + p * 1) (.slice (some ⟨gs0 k,0,none⟩) n (cp0 k))) (0 + k * 1) (.slice (some ⟨gs0 p,0,none⟩) n (cp0 p)) = fun i=>Value.slice (some ⟨swp k p gs0 i,0,none⟩) n (swp k p cp0 i):=by
    funext i
    rw [Nat.zero_add,Nat.zero_add,Nat.mul_one,Nat.mul_one]
    simp only [swp]
    by_cases h2:i = k
    · subst h2; rw [upd_self,if_pos rfl,if_pos rfl]
    · rw [upd_ne _ _ h2,if_neg h2,if_neg h2]
      by_cases h1:i = p
      · subst h1; rw [upd_self,if_pos rfl,if_pos rfl]
      · rw [upd_ne _ _ h1,if_neg h1,if_neg h1]
   rw [e] at hO5
   replace hW:=hW.swap hkl hp hC_ hk_ hO5
   rw [swp_sw' k p A0] at hW
   replace hX:=hC_.ext_of hX (fun b hb=>by omega)
   have hgs:∀ i,i < n→w.heap.size≤swp k p gs0 i:=fun i hi=>by
    rw [swp_sw']; exact hgs0 _ (sw_lt hkl hp hi)
   generalize swp k p gs0 = gs at hW hgs
   generalize swp k p cp0 = cp at hW
   clear hxp hxk hO3 hO4 hO5 hC4 hC5 hC_ hk_ e hs4 hs5
   refine gg ?_
   refine W_seqM (fun f w'=>f 4 = .int .i64 ((n:Nat):Int)∧f 5 = .int .i64 ((n:Nat):Int)∧f 7 = .slice (some ⟨gO,0,none⟩) n n∧f 8 = .int .i64 ((k:Nat):Int)∧f 9 = .int .i64 ((p:Nat):Int)∧f 10 = .int .i64 ((q:Nat):Int)∧Ext w w'∧GMat w' gO gs cp n n true (fun _ _=>34359738368) (Go.Sm.swp A0 k p q)) ?_ ?_
   · refine gg ?_
     refine W_loop (fun m f w'=>∃ i,m = n - i∧i≤n∧f 4 = .int .i64 ((n:Nat):Int)∧f 5 = .int .i64 ((n:Nat):Int)∧f 7 = .slice (some ⟨gO,0,none⟩) n n∧f 8 = .int .i64 ((k:Nat):Int)∧f 9 = .int .i64 ((p:Nat):Int)∧f 10 = .int .i64 ((q:Nat):Int)∧f 58 = .int .i64 ((n:Nat):Int)∧f 59 = .int .i64 ((i:Nat):Int)∧Ext w w'∧GMat w' gO gs cp n n true (fun _ _=>34359738368) (fun a t=>if a < i then A0 (sw k p a) (sw k q t) else A0 (sw k p a) t))
      n ⟨0,rfl,Nat.zero_le _,rfl,rfl,rfl,rfl,rfl,rfl,rfl,rfl,hX,hW.congr (fun a b _ _=>⟨Nat.le_refl _,by rw [if_neg (by omega)]⟩)⟩ ?_
     clear hX hW
     rintro m f w10 ⟨i,rfl,hi,hf4,hf5,hf7,hf8,hf9,hf10,hf58,hf59,hX,hW⟩
     rw [ui hf4,ui hf5,ui hf7,ui hf8,ui hf9,ui hf10,ui hf58,ui hf59]
     clear hf4 hf5 hf7 hf8 hf9 hf10 hf58 hf59
     by_cases hil:i < n
     rotate_left
     · refine gg ?_
       exact ⟨rfl,rfl,rfl,rfl,rfl,rfl,hX,hW.congr (fun a b ha hb=>⟨Nat.le_refl _,by rw [if_pos (by omega)]; rfl⟩)⟩
     have hX:Ext w w10:=hX
     refine gg ?_
     refine gg ?_
     refine W_regD [(0,3),(1,3),(2,3),(3,0),(4,3),(5,3),(6,3),(7,3),(8,0),(9,3),(10,3),(11,3),(12,3),(13,0),(14,3),(15,3),(16,0),(17,3),(18,3),(19,3),(20,0),(21,3),(22,3),(23,0),(24,3),(25,2),(26,3),(27,2)] mixed (by kernel_rfl) (fun w_4 hE_ _=>?_)
     replace hW:=hW.ext hE_
     replace hX:=hX.trans hE_
     clear hE_
     have hoi:=hW.at hil
     obtain ⟨x0,y0,hx0,hy0,hv0⟩:=(hW.row i hil).at hkl
     obtain ⟨x1,y1,hx1,hy1,hv1⟩:=(hW.row i hil).at hq
     rw [if_neg (by omega)] at hv0 hv1
     have hgi:=hgs i hil
     refine gg ?_
     refine R1_storeG (.inl rfl) rfl rfl (hW.row i hil) hq hv0 ?_
     intro w11 hR hC_ hk_ hs_
     replace hW:=hW.put hil hR hC_ hk_
     replace hX:=hC_.ext_of hX (fun b hb=>by omega)
     replace hv1:=hv1.kp hk_
     clear hR hC_ hk_ hs_ hv0
     refine gg ?_
     refine R1_storeG (.inl rfl) rfl rfl (hW.row i hil) hkl hv1 ?_
     intro w12 hR hC_ hk_ hs_
     replace hW:=hW.put hil hR hC_ hk_
     replace hX:=hC_.ext_of hX (fun b hb=>by omega)
     clear hR hC_ hk_ hs_
     refine gg ?_
     refine ⟨_,?_,i + 1,rfl,hil,rfl,rfl,rfl,rfl,rfl,rfl,rfl,rfl,hX,hW.congr (fun a b ha hb=>⟨?_,?_⟩)⟩
     · omega
     · simp only [set2]
       split
       · exact Nat.le_refl _
       · split <;> exact Nat.le_refl _
     · simp only [set2]
       by_cases ea:a = i
       · subst ea
         rw [if_pos (show a < a + 1 by omega)]
         by_cases eb:b = k
         · subst eb
           rw [if_pos ⟨rfl,rfl⟩]
           unfold sw
           rw [if_pos (show b = b from rfl)]
         · rw [if_neg (fun h=>eb h.2)]
           by_cases eq:b = q
           · subst eq
             rw [if_pos ⟨rfl,rfl⟩]
             rw [show sw k b b = k by unfold sw; rw [if_neg eb,if_pos rfl]]
           · rw [if_neg (fun h=>eq h.2),if_neg (show ¬ a < a by omega)]
             rw [show sw k q b = b by unfold sw; rw [if_neg eb,if_neg eq]]
       · rw [if_neg (fun h=>ea h.1),if_neg (fun h=>ea h.1)]
         by_cases h:a < i
         · rw [if_pos h,if_pos (by omega)]
         · rw [if_neg h,if_neg (by omega)]
   clear hX hW
   rintro f w10 ⟨hf4,hf5,hf7,hf8,hf9,hf10,hX,hW⟩
   rw [ui hf4,ui hf5,ui hf7,ui hf8,ui hf9,ui hf10]
   clear hf4 hf5 hf7 hf8 hf9 hf10
   have hD:=hS.dg
   have hV1:=hV.swp hkl hp hq
   have hD1:=hD.swp hkl hkp hp hkq hq
   have hx:Go.Sm.swp A0 k p q k k ≠ 0:=by simp only [Go.Sm.swp,Go.Sm.sx_k]; exact hsel.nz
   have h32:E + 6 < 32 * 34359738368:=by omega
   have hl5:∀ V:Nat,5 * V≤64 * V∧25 * V≤64 * V∧2 * (25 * V)≤64 * V:=fun V=>by omega
   have h64:2 ^ (E + 6) = 64 * 2 ^ E:=by rw [Nat.pow_add,Nat.mul_comm]
   have b1:=mn_bd ((hV1.rowP hn4 hkl hD1 hx).mono (by rw [h64]; exact (hl5 _).1)) h32
   have b2:=mn_bd ((hV1.red hn4 hkl hD1 hx).mono (by rw [h64]; exact (hl5 _).2.1)) h32
   have b3:∀ i0,i0 < n→∀ a b,a < n→b < n→Bd 34359738368 (addR (red (Go.Sm.swp A0 k p q) k n) k i0 a b):=fun i0 h0=>mn_bd (((hV1.red hn4 hkl hD1 hx).addR h0).mono (by rw [h64]; exact (hl5 _).2.2)) h32
   clear hl5
   refine gg ?_
   refine R1_call2 (sreduce_ok gO n k 34359738368 gs cp (Go.Sm.swp A0 k p q) w10 hW hkl (by omega) (by decide) (by decide) hx b1 b2 b3) ?_
   rintro _ w11 ⟨A1,b,rfl,hO,hC,hK,hW⟩
   replace hX:=hC.ext_of hX (fun c ⟨i,hi,e⟩=>by rw [e]; exact hgs i hi)
   have hR:Rd n k A0 A1 b:=⟨p,q,hsel,hO⟩
   cases b with
   | true =>
    refine gg ?_
    have hV2:=hV.round6 hn4 hD hR
    obtain ⟨_,hcl,hnz,hdv⟩:=Go.Sm.rd_true hR
    have hS2:=hS.round hV hn4 hR
    refine ⟨A1,gs,cp,rfl,rfl,rfl,rfl,hX,hW,hgs,hS.next hV hn4 hR,(hQ.trans (Go.Sm.eqv_round hR)).trans (Go.Sm.eqv_absK A1 k hcl hS2.dg hkl),(hV2.absK k hcl hS2.dg hkl).mono (Nat.pow_le_pow_right (by decide) (by omega)),mn_bd hV2 h32 k k hkl hkl⟩
   | false =>
    refine gg ?_
    have hfin:=hF ⟨p,q,hkp,hp,hkq,hq,hsel.nz⟩
    cases m with
    | zero=>have:=hfin A1 false hR; cases this
    | succ r =>
     have hfin1:Fin n k r A1:=(hfin A1 false hR).elim (fun e=>by cases e) id
     refine ⟨_,?_,r,E + 6,A1,gs,cp,rfl,rfl,rfl,rfl,rfl,hX,hW,hgs,hS.round hV hn4 hR,hQ.trans (Go.Sm.eqv_round hR),hV.round6 hn4 hD hR,by omega,fun _=>hfin1⟩
     omega
 clear hX hW hgs hS hQ hV gs cp A0
 rintro f w2 ⟨A,gs,cp,hf4,hf5,hf7,hf8,hX,hW,hgs,hS,hQ,hV,hbk⟩
 rw [ui hf4,ui hf5,ui hf7,ui hf8]
 clear hf4 hf5 hf7 hf8
 have hX:Ext w w2:=hX
 refine gg ?_
 refine gg ?_
 refine W_regD [(0,3),(1,3),(2,3),(3,0),(4,3),(5,3),(6,3),(7,3),(8,0),(9,3),(10,3),(11,0),(12,1),(13,3),(14,2)] mixed (by kernel_rfl) (fun w_5 hE_ _=>?_)
 replace hW:=hW.ext hE_
 replace hX:=hX.trans hE_
 clear hE_
 have hok:=hW.at hkl
 obtain ⟨x0,y0,hx0,hy0,hv0⟩:=(hW.row k hkl).at hkl
 replace hv0:=hv0.1
 refine gg ?_
 refine R1_call1 (rabs_ok _ _ _ 34359738368 w_5 hv0 (by decide)) ?_
 rintro _ w_6 ⟨hE_,a0,a1,rfl,hc1'⟩
 refine ⟨hE_,?_⟩
 replace hW:=hW.ext hE_
 replace hv0:=hv0.ext hE_
 replace hX:=hX.trans hE_
 clear hE_
 have hba:Bd 34359738368 (((A k k).natAbs:Nat):Int):=by unfold Bd at *; omega
 clear hok hx0 hy0
 have hgk:=hgs k hkl
 refine gg ?_
 refine R1_storeG (.inl rfl) rfl rfl (hW.row k hkl) hkl (hc1'.ev true hba) ?_
 intro w5 hR hC_ hk_ hs_
 replace hW:=hW.put hkl hR hC_ hk_
 replace hX:=hC_.ext_of hX (fun b hb=>by omega)
 refine gg ?_
 refine ⟨_,?_,k + 1,Go.Sm.absK A k,gs,cp,rfl,by omega,rfl,rfl,rfl,rfl,hX,hW.congr (fun a b _ _=>⟨?_,?_⟩),hgs,hS,hQ,hV⟩
 · omega
 · simp only [set2]; split <;> exact Nat.le_refl _
 · simp only [set2,Go.Sm.absK]
def RSa (w:World) (n:Nat) (M:Nat→Nat→Int) (v:Value) (w':World):Prop :=
 Ext w w'∧∃ u D,v = .tuple #[u,.bool true]∧RowE (EC 34359738368) w' u n (fun k=>D k k)∧Smith n D∧Eqv n M D
set_option maxHeartbeats 16000000 in
theorem sfactors_ok (va:Value) (n N:Nat) (M:Nat→Nat→Int) (w:World) (ha:MatE (EI N) w va n (fun _=>n) M) (hn1:1≤n) (hn4:n≤4) (hN:N≤18) :
 Meets Tryz.prog 59 #[va] w (RSa w n M):=by
 refine fn_W (n:=40) Tryz.func59 rfl rfl (by kernel_rfl) (by simp) ?_
 refine gg ?_
 refine R1_call2 (sform_ok va n N M w ha hn1 hn4 hN) ?_
 rintro _ w1 ⟨hE1,gO,gs,cp,D,rfl,hW,hS,hQ⟩
 refine gg ?_
 refine W_seq ?_
 refine gg ?_
 refine W_seqM (fun f w'=>∃ v,f 6 = v∧Ext w w'∧GrowB w' v n true 34359738368 (fun k=>D k k)) ?_ ?_
 · refine gg ?_
   refine W_loop (fun m f w'=>∃ k v,m = n - k∧k≤n∧f 4 = .slice (some ⟨gO,0,none⟩) n n∧f 6 = v∧f 7 = .int .i64 ((k:Nat):Int)∧Ext w1 w'∧GrowB w' v k true 34359738368 (fun k=>D k k)∧∀ b,some b = v.ownBlock→w1.heap.size≤b)
    n ⟨0,.slice none 0 0,rfl,Nat.zero_le _,rfl,rfl,rfl,Ext.refl _,GrowB.nil,fun b hb=>by cases hb⟩ ?_
   rintro m f w2 ⟨k,v,rfl,hk,hf4,hf6,hf7,hE,hG,hown⟩
   rw [ui hf4,ui hf6,ui hf7]
   clear hf4 hf6 hf7
   refine W_seq ?_
   have hW2:=hW.ext hE
   by_cases hlt:k < n
   · have h0:=hW2.at (i:=0) (by omega)
     have hkr:=hW2.at hlt
     obtain ⟨x0,y0,hx0,hy0,hv0⟩:=(hW2.row k hlt).at hlt
     refine gg ?_
     refine R1_sliceE1 (.inl rfl) rfl ?_
     intro w7 hB7 hE7 hs7
     obtain ⟨p1,p2⟩:=blkP hB7
     refine gg ?_
     refine R1_appE (.inl rfl) rfl rfl (hG.ext hE7) p1 p2 (hv0.ext hE7) (by omega) ?_
     intro v' w8 hG8 hk8 hC8 hv8
     have hs:=(hE.trans hE7).size
     refine gg ?_
     refine ⟨_,?_,k + 1,v',rfl,by omega,rfl,rfl,rfl,hC8.ext_of (hE.trans hE7) hown,hG8.congr fun q _=>?_,fun b hb=>?_⟩
     · omega
     · split
       · rename_i e; rw [e]
       · rfl
     · rcases hv8 with e | e
       · rw [e] at hb; exact hown b hb
       · rw [e] at hb; injection hb with hb; omega
   · refine gg ?_
     obtain rfl:k = n:=by omega
     exact ⟨v,rfl,hE1.trans hE,hG⟩
 rintro f w2 ⟨v,hf6,hE,hG⟩
 rw [ui hf6]
 clear hf6
 refine gg ?_
 exact ret2 (v:=v) (v':=.bool _) rfl rfl rfl ⟨hE,v,D,rfl,hG.rowC,hS,hQ⟩
end Go.Proofs.YtncbjgblcofddaaGreatDoor
namespace Go.Proofs.YtncbjgblcofddaaGreatDoor
open Go Go.Eng Go.Num Go.Proofs
open Go.Det (det gr one)
open Go.Sm (Eqv Inv Smith)
theorem mulA (n:Nat) (X Y Z:Nat→Nat→Int):Go.Det.mul n (Go.Det.mul n X Y) Z = Go.Det.mul n X (Go.Det.mul n Y Z):=by
 funext i j; exact Go.Det.mul_assoc n n X Y Z i j
theorem cgM_mul (n:Nat) (M T:Nat→Nat→Int):cgM n M T = Go.Det.mul n (Go.Det.tr T) (Go.Det.mul n M T):=by
 unfold cgM; rw [mulM_mul,mulM_mul]; rfl
theorem cg_val {n:Nat} {M T:Nat→Nat→Int} (h:valE n (fun _=>n) M = 0) (hT:det n T = 1 ∨ det n T = -1):valE n (fun _=>n) (cgM n M T) = 0∧det n (cgM n M T) = det n M:=by
 have e:cgM n M T = gr n (Go.Det.tr T) M:=by rw [cgM_mul,Go.Det.gr_mul]; rfl
 rw [e]
 exact cong_val h (by rw [Go.Det.det_tr]; exact hT)
theorem cg_bd {n N:Nat} {M T:Nat→Nat→Int} (hn:n≤16) (hM:∀ i j,i < n→j < n→Bd N (M i j)) (hT:∀ i j,i < n→j < n→Bd 1 (T i j)):∀ i j,i < n→j < n→Bd (N + 4) (cgM n M T i j):=by
 intro i j hi hj
 have h:Bd (1 + (N + 1 + 1) + 1) (cgM n M T i j):=sumTo_bd (by omega) fun k hk=>(hT k i hk hi).mul (sumTo_bd (N:=N + 1) (by omega) fun l hl=>(hM k l hk hl).mul (hT l j hl hj))
 exact h.mono (by omega)
theorem cg_cg (n:Nat) (M T U:Nat→Nat→Int):cgM n (cgM n M T) U = cgM n M (mulM n T U):=by
 rw [mulM_mul,cgM_mul,cgM_mul,cgM_mul,Go.Det.tr_mul]
 simp only [mulA]
theorem inv_tr {n:Nat} {X X':Nat→Nat→Int} (h:Inv n X X'):Inv n (Go.Det.tr X) (Go.Det.tr X'):=by
 refine ⟨fun i j hi hj=>?_,fun i j hi hj=>?_⟩
 · rw [← Go.Det.tr_mul]; simp only [Go.Det.tr]; rw [h.l j i hj hi]; simp only [one,eq_comm]
 · rw [← Go.Det.tr_mul]; simp only [Go.Det.tr]; rw [h.r j i hj hi]; simp only [one,eq_comm]
theorem cg_eqv {n:Nat} {M T:Nat→Nat→Int} (hn:1≤n) (hT:det n T = 1 ∨ det n T = -1):Eqv n M (cgM n M T):=by
 obtain ⟨m,rfl⟩ : ∃ m,n = m + 1:=⟨n - 1,by omega⟩
 have hI:=Inv.of_det hT
 rw [cgM_mul]
 exact (Eqv.right hI fun _ _ _ _=>rfl).trans (Eqv.left (inv_tr hI) fun _ _ _ _=>rfl)
theorem eqv_dvd {n:Nat} {A C:Nat→Nat→Int} {d:Int} (h:Eqv n A C) (hd:∀ i j,i < n→j < n→d ∣ A i j):∀ i j,i < n→j < n→d ∣ C i j:=by
 obtain ⟨X,X',Y,Y',hX,hY,h⟩:=h
 intro i j hi hj
 have e:C i j = Go.Det.mul n (Go.Det.mul n X A) Y' i j:=by
  rw [Go.Sm.mul_congr (A':=Go.Det.mul n C Y) (C':=Y') (fun k hk=>(h i k hi hk).symm) fun _ _=>rfl,Go.Det.mul_assoc]
  rw [Go.Sm.mul_congr (A':=C) (C':=one) (fun _ _=>rfl) fun k hk=>hY.r k j hk hj,Go.Det.mul_one n C i j hj]
 rw [e]
 refine Go.Sm.dvd_sm fun k hk=>Int.dvd_trans (Go.Sm.dvd_sm fun l hl=>Int.dvd_trans (hd l k hl hk) ⟨X i l,Int.mul_comm _ _⟩) ⟨Y' k j,rfl⟩
theorem dvd_gcdR (M:Nat→Int) (a d:Nat):∀ j,d ∣ gcdR M a j ↔ d ∣ a∧∀ k,k < j→(d:Int) ∣ M k:=by
 intro j
 induction j with
 | zero=>exact ⟨fun h=>⟨h,fun k hk=>absurd hk (by omega)⟩,fun h=>h.1⟩
 | succ j ih =>
  have e:gcdR M a (j + 1) = Nat.gcd (gcdR M a j) (M j).natAbs:=rfl
  rw [e,Nat.dvd_gcd_iff,ih,show d ∣ (M j).natAbs ↔ (d:Int) ∣ M j from ⟨fun h=>Int.natAbs_dvd_natAbs.1 (by simpa using h),fun h=>by simpa using Int.natAbs_dvd_natAbs.2 h⟩]
  constructor
  · rintro ⟨⟨h1,h2⟩,h3⟩
    refine ⟨h1,fun k hk=>?_⟩
    by_cases e:k = j
    · rw [e]; exact h3
    · exact h2 k (by omega)
  · rintro ⟨h1,h2⟩
    exact ⟨⟨h1,fun k hk=>h2 k (by omega)⟩,h2 j (by omega)⟩
theorem dvd_gcdM (n d:Nat) (M:Nat→Nat→Int):∀ i,d ∣ gcdM n M i ↔ ∀ k j,k < i→j < n→(d:Int) ∣ M k j:=by
 intro i
 induction i with
 | zero=>exact ⟨fun _ k j hk=>absurd hk (by omega),fun _=>Nat.dvd_zero _⟩
 | succ i ih =>
  have e:gcdM n M (i + 1) = gcdR (M i) (gcdM n M i) n:=rfl
  rw [e,dvd_gcdR,ih]
  constructor
  · rintro ⟨h1,h2⟩ k j hk hj
    by_cases e:k = i
    · rw [e]; exact h2 j hj
    · exact h1 k j (by omega) hj
  · intro h
    exact ⟨fun k j hk hj=>h k j (by omega) hj,fun j hj=>h i j (by omega) hj⟩
theorem eqv_content {n:Nat} {A C:Nat→Nat→Int} (h:Eqv n A C):gcdM n A n = gcdM n C n:=by
 have key:∀ {A C:Nat→Nat→Int},Eqv n A C→gcdM n A n ∣ gcdM n C n:=fun h =>
  (dvd_gcdM _ _ _ _).2 (eqv_dvd h ((dvd_gcdM _ _ _ _).1 (Nat.dvd_refl _)))
 exact Nat.dvd_antisymm (key h) (key h.symm)
theorem norm_even {n:Nat} {M:Nat→Nat→Int} (hs:∀ i j,i < n→j < n→M i j = M j i) (he:∀ i,i < n→M i i % 2 = 0) (x:Nat→Int):∀ m,m≤n→(Go.Det.sm m fun k=>x k * Go.Det.sm m fun l=>M k l * x l) % 2 = 0:=by
 intro m
 induction m with
 | zero=>intro _; rfl
 | succ m ih =>
  intro hm
  have h1:=ih (by omega)
  have h2:=he m (by omega)
  obtain ⟨c,hc⟩ : ∃ c,M m m = 2 * c:=⟨M m m / 2,by omega⟩
  have e1:(Go.Det.sm (m + 1) fun k=>x k * Go.Det.sm (m + 1) fun l=>M k l * x l) = (Go.Det.sm m fun k=>x k * Go.Det.sm m fun l=>M k l * x l) + 2 * (x m * Go.Det.sm m fun k=>M m k * x k) + 2 * (c * (x m * x m)):=by
   have e2:∀ k,(Go.Det.sm (m + 1) fun l=>M k l * x l) = (Go.Det.sm m fun l=>M k l * x l) + M k m * x m:=fun k=>rfl
   have e3:(Go.Det.sm m fun k=>x k * ((Go.Det.sm m fun l=>M k l * x l) + M k m * x m)) = (Go.Det.sm m fun k=>x k * Go.Det.sm m fun l=>M k l * x l) + x m * Go.Det.sm m fun k=>M m k * x k:=by
    rw [← Go.Det.sm_mul,← Go.Det.sm_add]
    refine Go.Det.sm_congr fun k hk=>?_
    rw [hs k m (by omega) (by omega)]
    grind
   have e4:(Go.Det.sm (m + 1) fun k=>x k * Go.Det.sm (m + 1) fun l=>M k l * x l) = (Go.Det.sm m fun k=>x k * Go.Det.sm (m + 1) fun l=>M k l * x l) + x m * Go.Det.sm (m + 1) fun l=>M m l * x l:=rfl
   rw [e4]
   simp only [e2]
   rw [e3,hc]
   grind
  rw [e1]
  omega
theorem cg_diag (n:Nat) (M T:Nat→Nat→Int) (i:Nat):cgM n M T i i = Go.Det.sm n fun k=>T k i * Go.Det.sm n fun l=>M k l * T l i:=by
 rw [cgM_mul]; rfl
theorem cg_even1 {n:Nat} {M T:Nat→Nat→Int} (hs:∀ i j,i < n→j < n→M i j = M j i) (he:∀ i,i < n→M i i % 2 = 0):∀ i,i < n→cgM n M T i i % 2 = 0:=fun i _=>by
 rw [cg_diag]
 exact norm_even hs he (fun k=>T k i) n (Nat.le_refl _)
theorem cg_one {n:Nat} {M T:Nat→Nat→Int} (h:∀ i j,i < n→j < n→T i j = one i j):∀ i j,i < n→j < n→cgM n M T i j = M i j:=fun i j hi hj=>by
 rw [cgM_mul]
 have e1:∀ k,k < n→Go.Det.mul n M T k j = M k j:=fun k hk=>by
  rw [Go.Sm.mul_congr (A':=M) (C':=one) (fun _ _=>rfl) fun t ht=>h t j ht hj,Go.Det.mul_one n M k j hj]
 rw [Go.Sm.mul_congr (A':=one) (C':=M) (fun t ht=>by simp only [Go.Det.tr]; rw [h t i ht hi]; simp only [one,eq_comm]) e1,Go.Det.one_mul n M i j hi]
theorem val_sym {n:Nat} {M:Nat→Nat→Int} (h:valE n (fun _=>n) M = 0):∀ i j,i < n→j < n→M i j = M j i:=by
 obtain ⟨_,_,hs,_⟩:=valE_zero.1 h
 intro i j hi hj
 by_cases e:j < i
 · exact hs i j hi e
 · by_cases e2:i = j
   · rw [e2]
   · exact (hs j i hj (by omega)).symm
theorem cg_even {n:Nat} {M T:Nat→Nat→Int} (hn:1≤n) (h:valE n (fun _=>n) M = 0) (hT:det n T = 1 ∨ det n T = -1):(∀ i,i < n→M i i % 2 = 0) ↔ ∀ i,i < n→cgM n M T i i % 2 = 0:=by
 refine ⟨fun he=>cg_even1 (val_sym h) he,fun he i hi=>?_⟩
 obtain ⟨m,rfl⟩ : ∃ m,n = m + 1:=⟨n - 1,by omega⟩
 have hI:=Inv.of_det hT
 have h1:=cg_even1 (T:=fun i j=>det (m + 1) T * Go.Det.adj m T i j) (val_sym (cg_val h hT).1) he i hi
 rw [cg_cg,cg_one (M:=M) (fun i j hi hj=>by rw [mulM_mul]; exact hI.r i j hi hj) i i hi hi] at h1
 exact h1
theorem transT_ok (va vb:Value) (n N:Nat) (M T:Nat→Nat→Int) (w:World) (ha:MatE (EI N) w va n (fun _=>n) M) (hb:MatE (EI N) w vb n (fun _=>n) T) (h0:valE n (fun _=>n) M = 0) (hT:det n T = 1 ∨ det n T = -1) (hN1:1≤N) (hN:N < 1048576) :
 Meets Tryz.prog 54 #[va,vb] w fun v w'=>Ext w w'∧∃ gO gs,v = .tuple #[.slice (some ⟨gO,0,none⟩) n n,.int .i64 ((0:Nat):Int)]∧OMat w' gO gs n n (cgM n M T) :=
 (transform_ok va vb n n N _ _ M T w ha hb hN1 hN).mono fun v w' ⟨hE,h⟩=>by
  have e:=trE_sq (len:=fun _=>n) (len2:=fun _=>n) h0 (fun _ _=>rfl) (X:=T) (by rcases hT with e | e <;> rw [e] <;> decide)
  rcases h with ⟨h1,_⟩ | ⟨_,gO,gs,rfl,hO⟩
  · exact absurd e h1
  · exact ⟨hE,gO,gs,rfl,hO⟩
set_option maxHeartbeats 32000000 in
theorem lawGramChanges {vx vk vl:Value} {dm kd q m m1 m2:Nat} {ns ms n1 n2:Nat→Int} {w:World} (hm:ML w) (hx:LatV w vx dm kd q ns m ms) (h1:NumsV w vk m1 n1) (h2:NumsV w vl m2 n2) :
 Meets Tryz.prog 14 #[vx,vk,vl] w (Law w):=by
 obtain ⟨A,cap,A',cap',rfl,hd,hk,hc,hc',hN,hN'⟩:=hx
 obtain ⟨A1,cap1,rfl,_,hN1⟩:=h1
 obtain ⟨A2,cap2,rfl,_,hN2⟩:=h2
 have hL:=LatV.agg hd hk hc hc' hN hN'
 have hdm:=Nat.mod_lt dm (show 0 < 4 by decide)
 obtain ⟨n,hn⟩ : ∃ n,n = 1 + dm % 4:=⟨_,rfl⟩
 have hn1:1≤n:=by omega
 have hn4:n≤4:=by omega
 have hn0:n < 9223372036854775808:=by omega
 have hoM:okM n (fun _=>n) = true:=okM_iff.2 ⟨⟨hn1,by omega,hn1,by omega⟩,fun _ _=>rfl⟩
 refine fn_W (n:=157) Tryz.func14 rfl rfl (by kernel_rfl) (by simp) ?_
 have hX:Ext w w:=Ext.refl w
 refine gg ?_
 refine R1_box (v:=.agg _) (.inl rfl) rfl ?_
 intro w_1 hB0_ hE_ hs_
 have hX1:Blk w_1 w.heap.size 25 #[.int .u8 ((dm:Nat):Int),.int .u8 ((kd:Nat):Int),.slice A q cap,.slice A' m cap']:=hB0_
 obtain ⟨gX,hg_⟩ : ∃ g,g = w.heap.size:=⟨_,rfl⟩
 rw [← hg_] at hX1 ⊢
 have hfr_gX:w.heap.size≤gX:=by have:=hX.size; omega
 replace hX:=hX.trans hE_
 clear hB0_ hs_ hg_ hE_
 obtain ⟨x0,x1,x2,x3⟩:=blkQ hX1
 refine gg ?_
 refine R1_load4F (by decide) agg_Lat rfl x0 x1 x2 x3 ?_
 clear x0 x1 x2 x3
 refine gg ?_
 refine gg ?_
 refine R1_call2 (latRaw_ok _ dm kd q m 4 ns ms w_1 (hL w_1 hX) (by decide) (by decide)) ?_
 rintro _ w_2 ⟨hE_,gM,gsM,M,rfl,_,_,hO,h0,_,bM⟩
 replace hX1:=hX1.ext hE_
 replace hX:=hX.trans hE_
 clear hE_
 rw [← hn] at hO h0 bM ⊢
 have hA:MatE (EI 5) w_2 (.slice (some ⟨gM,0,none⟩) n n) n (fun _=>n) M:=hO.read bM hn0 hn0
 refine gg ?_
 refine R1_call2 (unimodular_ok A1 m1 cap1 n n1 w_2 (hN1.ext hX) hn1 (by omega)) ?_
 rintro _ w_3 ⟨hE_,gU,gsU,U,rfl,_,_,hU,bU,hdU⟩
 replace hX1:=hX1.ext hE_
 replace hO:=hO.ext hE_
 replace hA:=hA.ext hE_
 replace hX:=hX.trans hE_
 clear hE_
 have bU1:∀ i j,i < n→j < n→Bd 1 (U i j):=fun i j hi hj=>by
  have:=bU i j hi hj
  unfold Bd B
  omega
 refine gg ?_
 refine R1_call2 (rof_ok _ n (fun _=>n) U w_3 (hU.read (fun i j hi hj=>by have:=bU i j hi hj; omega) (by omega) (by omega))) ?_
 intro u w6 hu
 obtain ⟨hE6,gV,gsV,rfl,_,_,hUo⟩:=hu.get hoM
 clear hu
 replace hX:=hX.trans hE6
 replace hA:=hA.ext hE6
 have hUm:=hUo.read (N:=5) (fun i j hi hj=>(bU1 i j hi hj).mono (by decide)) hn0 hn0
 refine gg ?_
 refine R1_call2 (unimodular_ok A2 m2 cap2 n n2 w6 (hN2.ext hX) hn1 (by omega)) ?_
 rintro _ w_4 ⟨hE_,gU2,gsU2,V,rfl,_,_,hV,bV,hdV⟩
 replace hA:=hA.ext hE_
 replace hUm:=hUm.ext hE_
 replace hX:=hX.trans hE_
 clear hE_
 have bV1:∀ i j,i < n→j < n→Bd 1 (V i j):=fun i j hi hj=>by
  have:=bV i j hi hj
  unfold Bd B
  omega
 refine gg ?_
 refine R1_call2 (rof_ok _ n (fun _=>n) V w_4 (hV.read (fun i j hi hj=>by have:=bV i j hi hj; omega) (by omega) (by omega))) ?_
 intro u w7 hu
 obtain ⟨hE7,gV2,gsV2,rfl,_,_,hVo⟩:=hu.get hoM
 clear hu
 replace hX:=hX.trans hE7
 replace hA:=hA.ext hE7
 replace hUm:=hUm.ext hE7
 have hVm:=hVo.read (N:=5) (fun i j hi hj=>(bV1 i j hi hj).mono (by decide)) hn0 hn0
 obtain ⟨hv1,hdt1⟩:=cg_val h0 hdU
 obtain ⟨hv2,hdt2⟩:=cg_val hv1 hdV
 have b1:=cg_bd (by omega) bM bU1
 have b2:=cg_bd (by omega) b1 bV1
 have bP:∀ i j,i < n→j < n→Bd 3 (mulM n U V i j):=fun i j hi hj=>sumTo_bd (N:=2) (by omega) fun t ht=>(bU1 i t hi ht).mul (bV1 t j ht hj)
 have hdP:det n (mulM n U V) = 1 ∨ det n (mulM n U V) = -1:=by
  rw [mulM_mul,Go.Det.det_mul]
  rcases hdU with e | e <;> rcases hdV with e' | e' <;> rw [e,e'] <;> decide
 refine gg ?_
 refine gg ?_
 refine R1_call2 (transT_ok _ _ n 5 M U w7 hA hUm h0 hdU (by decide) (by decide)) ?_
 rintro _ w_5 ⟨hE_,gB,gsB,rfl,hOB⟩
 replace hA:=hA.ext hE_
 replace hUm:=hUm.ext hE_
 replace hVm:=hVm.ext hE_
 replace hX:=hX.trans hE_
 clear hE_
 have hB:=hOB.read (N:=9) b1 hn0 hn0
 refine gg ?_
 refine R1_call2 (transT_ok _ _ n 9 (cgM n M U) V w_5 hB (hVm.mono (by decide)) hv1 hdV (by decide) (by decide)) ?_
 rintro _ w8 ⟨hE8,gC,gsC,rfl,hOC⟩
 replace hX:=hX.trans hE8
 replace hA:=hA.ext hE8
 replace hUm:=hUm.ext hE8
 replace hVm:=hVm.ext hE8
 refine gg ?_
 refine R1_call2 (rproductT_ok (N:=5) hUm hVm (by decide) hn1 (by omega) hn1 (by omega) hn1 (by omega)) ?_
 rintro _ w9 ⟨hE9,g9,gs9,rfl,_,_,hP9⟩
 replace hX:=hX.trans hE9
 replace hA:=hA.ext hE9
 replace hOC:=hOC.ext hE9
 refine gg ?_
 refine R1_call2 (transT_ok _ _ n 5 M (mulM n U V) w9 hA (hP9.read (fun i j hi hj=>(bP i j hi hj).mono (by decide)) hn0 hn0) h0 hdP (by decide) (by decide)) ?_
 rintro _ w10 ⟨hE10,gD,gsD,rfl,hOD⟩
 rw [← cg_cg] at hOD
 replace hX:=hX.trans hE10
 replace hA:=hA.ext hE10
 replace hOC:=hOC.ext hE10
 obtain ⟨C,hCd⟩ : ∃ C,C = cgM n (cgM n M U) V:=⟨_,rfl⟩
 have hQ:Eqv n M C:=by rw [hCd]; exact (cg_eqv hn1 hdU).trans (cg_eqv hn1 hdV)
 have hct:gcdM n M n = gcdM n C n:=eqv_content hQ
 have hev:(∀ i,i < n→M i i % 2 = 0) ↔ ∀ i,i < n→C i i % 2 = 0:=by rw [hCd]; exact (cg_even hn1 h0 hdU).trans (cg_even hn1 hv1 hdV)
 have hdt:det n C = det n M:=by rw [hCd,hdt2,hdt1]
 rw [← hCd] at hOC hOD hv2 b2
 clear hdt1 hdt2 hv1 b1 bP hdP hCd
 have hAr:∀ {u:World},Ext w10 u→MatE (EI 5) u (.slice (some ⟨gM,0,none⟩) n n) n (fun _=>n) M:=fun hE=>hA.ext hE
 have hCr:∀ {u:World},Ext w10 u→MatE (EI 13) u (.slice (some ⟨gC,0,none⟩) n n) n (fun _=>n) C:=fun hE=>(hOC.ext hE).read b2 hn0 hn0
 have hCc:=hOC.readC b2 hn0 hn0
 have hDc:=hOD.readC b2 hn0 hn0
 clear hA hOC hOD
 have hK:Ext w10 w10:=Ext.refl _
 refine gg ?_
 refine W_seq ?_
 refine gg ?_
 refine gg ?_
 refine R1_call2 (rsameM_ok _ _ _ _ 13 _ _ _ _ w10 hCc hDc (by decide)) ?_
 rintro _ w_6 ⟨hE_,b,rfl,hb⟩
 replace hK:=hK.trans hE_
 replace hX:=hX.trans hE_
 clear hE_
 obtain rfl:b = true:=hb.2 ⟨rfl,fun i hi=>⟨rfl,fun j hj=>rfl⟩⟩
 clear hb hCc hDc
 have hdpos:0 < det n M:=by
  obtain ⟨_,_,_,hp⟩:=valE_zero.1 h0
  have:=hp (n - 1) (by omega)
  rwa [Nat.sub_add_cancel hn1] at this
 have bD:Bd 111 (det n M):=by
  rw [← detB_det]; exact (detB_bd (by decide) bM).mono (Nat.le_trans (Nb_le' 5 hn4) (by decide))
 have bC:Bd 5 ((gcdM n M n:Nat):Int):=gcdM_bd n bM
 refine gg ?_
 refine gg ?_
 refine R1_call2 (gdet_ok _ n 5 _ M w_6 (hAr hK) (by decide) (by decide)) ?_
 rintro _ w_7 ⟨hE_,x1,y1,rfl,hc1⟩
 replace hK:=hK.trans hE_
 replace hX:=hX.trans hE_
 clear hE_
 rw [h0,if_pos rfl] at hc1
 refine gg ?_
 refine gg ?_
 refine R1_alloc (.inl rfl) z_Int ?_
 intro w_8 hB0_ hE_ hs_
 have hD1:=Bx.zero (N:=1) true hB0_
 obtain ⟨g1,hg_⟩ : ∃ g,g = w_7.heap.size:=⟨_,rfl⟩
 rw [← hg_] at hD1 ⊢
 have hfr_g1:w.heap.size≤g1:=by have:=hX.size; omega
 have hfr_hK_g1:w10.heap.size≤g1:=by have:=hK.size; omega
 replace hK:=hK.trans hE_
 replace hc1:=hc1.ext hE_
 replace hX:=hX.trans hE_
 clear hB0_ hs_ hg_ hE_
 refine gg ?_
 refine gg ?_
 refine R1_storeBx (by first | exact .inl rfl | exact .inr ⟨rfl,fun _ h=>h.mono fun b _ e=>by omega⟩) rfl rfl hD1 (hc1.ev true bD) ?_
 intro w_9 hD1 hC_ hk_ hs_
 replace hK:=hC_.ext_of hK (fun b hb=>by omega)
 replace hc1:=hc1.kp hk_
 replace hX:=hC_.ext_of hX (fun b hb=>by omega)
 clear hC_ hk_ hs_
 refine gg ?_
 refine gg ?_
 refine R1_call2 (gdet_ok _ n 13 _ C w_9 (hCr hK) (by decide) (by decide)) ?_
 rintro _ w_10 ⟨hE_,x2,y2,rfl,hc2⟩
 replace hK:=hK.trans hE_
 replace hc1:=hc1.ext hE_
 replace hD1:=hD1.ext hE_
 replace hX:=hX.trans hE_
 clear hE_
 rw [hv2,if_pos rfl,hdt] at hc2
 refine gg ?_
 refine gg ?_
 refine R1_alloc (.inl rfl) z_Int ?_
 intro w_11 hB0_ hE_ hs_
 have hD2:=Bx.zero (N:=1) true hB0_
 obtain ⟨g2,hg_⟩ : ∃ g,g = w_10.heap.size:=⟨_,rfl⟩
 rw [← hg_] at hD2 ⊢
 have hfr_g2:w.heap.size≤g2:=by have:=hX.size; omega
 have hfr_hK_g2:w10.heap.size≤g2:=by have:=hK.size; omega
 have hne_g2_g1:g2 ≠ g1:=by have:=hD1.lt; omega
 replace hK:=hK.trans hE_
 replace hc1:=hc1.ext hE_
 replace hD1:=hD1.ext hE_
 replace hc2:=hc2.ext hE_
 replace hX:=hX.trans hE_
 clear hB0_ hs_ hg_ hE_
 refine gg ?_
 refine gg ?_
 refine R1_storeBx (by first | exact .inl rfl | exact .inr ⟨rfl,fun _ h=>h.mono fun b _ e=>by omega⟩) rfl rfl hD2 (hc2.ev true bD) ?_
 intro w_12 hD2 hC_ hk_ hs_
 replace hK:=hC_.ext_of hK (fun b hb=>by omega)
 replace hc1:=hc1.kp hk_
 replace hD1:=hD1.kp hk_ hC_ (by first | omega | assumption)
 replace hc2:=hc2.kp hk_
 replace hX:=hC_.ext_of hX (fun b hb=>by omega)
 clear hC_ hk_ hs_
 refine gg ?_
 refine gg ?_
 refine R1_call2 (content_ok _ n 5 _ M w_12 (hAr hK) (by decide) (by decide)) ?_
 rintro _ w_13 ⟨hE_,x3,y3,rfl,hc3⟩
 replace hK:=hK.trans hE_
 replace hc1:=hc1.ext hE_
 replace hD1:=hD1.ext hE_
 replace hc2:=hc2.ext hE_
 replace hD2:=hD2.ext hE_
 replace hX:=hX.trans hE_
 clear hE_
 rw [h0,if_pos rfl] at hc3
 refine gg ?_
 refine gg ?_
 refine R1_alloc (.inl rfl) z_Int ?_
 intro w_14 hB0_ hE_ hs_
 have hD3:=Bx.zero (N:=1) true hB0_
 obtain ⟨g3,hg_⟩ : ∃ g,g = w_13.heap.size:=⟨_,rfl⟩
 rw [← hg_] at hD3 ⊢
 have hfr_g3:w.heap.size≤g3:=by have:=hX.size; omega
 have hfr_hK_g3:w10.heap.size≤g3:=by have:=hK.size; omega
 have hne_g3_g1:g3 ≠ g1:=by have:=hD1.lt; omega
 have hne_g3_g2:g3 ≠ g2:=by have:=hD2.lt; omega
 replace hK:=hK.trans hE_
 replace hc1:=hc1.ext hE_
 replace hD1:=hD1.ext hE_
 replace hc2:=hc2.ext hE_
 replace hD2:=hD2.ext hE_
 replace hc3:=hc3.ext hE_
 replace hX:=hX.trans hE_
 clear hB0_ hs_ hg_ hE_
 refine gg ?_
 refine gg ?_
 refine R1_storeBx (by first | exact .inl rfl | exact .inr ⟨rfl,fun _ h=>h.mono fun b _ e=>by omega⟩) rfl rfl hD3 (hc3.ev true bC) ?_
 intro w_15 hD3 hC_ hk_ hs_
 replace hK:=hC_.ext_of hK (fun b hb=>by omega)
 replace hc1:=hc1.kp hk_
 replace hD1:=hD1.kp hk_ hC_ (by first | omega | assumption)
 replace hc2:=hc2.kp hk_
 replace hD2:=hD2.kp hk_ hC_ (by first | omega | assumption)
 replace hc3:=hc3.kp hk_
 replace hX:=hC_.ext_of hX (fun b hb=>by omega)
 clear hC_ hk_ hs_
 refine gg ?_
 refine gg ?_
 refine R1_call2 (content_ok _ n 13 _ C w_15 (hCr hK) (by decide) (by decide)) ?_
 rintro _ w_16 ⟨hE_,x4,y4,rfl,hc4⟩
 replace hK:=hK.trans hE_
 replace hc1:=hc1.ext hE_
 replace hD1:=hD1.ext hE_
 replace hc2:=hc2.ext hE_
 replace hD2:=hD2.ext hE_
 replace hc3:=hc3.ext hE_
 replace hD3:=hD3.ext hE_
 replace hX:=hX.trans hE_
 clear hE_
 rw [hv2,if_pos rfl,← hct] at hc4
 refine gg ?_
 refine gg ?_
 refine R1_alloc (.inl rfl) z_Int ?_
 intro w_17 hB0_ hE_ hs_
 have hD4:=Bx.zero (N:=1) true hB0_
 obtain ⟨g4,hg_⟩ : ∃ g,g = w_16.heap.size:=⟨_,rfl⟩
 rw [← hg_] at hD4 ⊢
 have hfr_g4:w.heap.size≤g4:=by have:=hX.size; omega
 have hfr_hK_g4:w10.heap.size≤g4:=by have:=hK.size; omega
 have hne_g4_g1:g4 ≠ g1:=by have:=hD1.lt; omega
 have hne_g4_g2:g4 ≠ g2:=by have:=hD2.lt; omega
 have hne_g4_g3:g4 ≠ g3:=by have:=hD3.lt; omega
 replace hK:=hK.trans hE_
 replace hc1:=hc1.ext hE_
 replace hD1:=hD1.ext hE_
 replace hc2:=hc2.ext hE_
 replace hD2:=hD2.ext hE_
 replace hc3:=hc3.ext hE_
 replace hD3:=hD3.ext hE_
 replace hc4:=hc4.ext hE_
 replace hX:=hX.trans hE_
 clear hB0_ hs_ hg_ hE_
 refine gg ?_
 refine gg ?_
 refine R1_storeBx (by first | exact .inl rfl | exact .inr ⟨rfl,fun _ h=>h.mono fun b _ e=>by omega⟩) rfl rfl hD4 (hc4.ev true bC) ?_
 intro w_18 hD4 hC_ hk_ hs_
 replace hK:=hC_.ext_of hK (fun b hb=>by omega)
 replace hc1:=hc1.kp hk_
 replace hD1:=hD1.kp hk_ hC_ (by first | omega | assumption)
 replace hc2:=hc2.kp hk_
 replace hD2:=hD2.kp hk_ hC_ (by first | omega | assumption)
 replace hc3:=hc3.kp hk_
 replace hD3:=hD3.kp hk_ hC_ (by first | omega | assumption)
 replace hc4:=hc4.kp hk_
 replace hX:=hC_.ext_of hX (fun b hb=>by omega)
 clear hC_ hk_ hs_
 refine gg ?_
 refine gg ?_
 refine R1_call2 (even_ok _ n 5 _ M w_18 (hAr hK) (by decide) (by decide)) ?_
 rintro _ w_19 ⟨hE_,rfl⟩
 replace hK:=hK.trans hE_
 replace hc1:=hc1.ext hE_
 replace hD1:=hD1.ext hE_
 replace hc2:=hc2.ext hE_
 replace hD2:=hD2.ext hE_
 replace hc3:=hc3.ext hE_
 replace hD3:=hD3.ext hE_
 replace hc4:=hc4.ext hE_
 replace hD4:=hD4.ext hE_
 replace hX:=hX.trans hE_
 clear hE_
 refine gg ?_
 refine gg ?_
 refine R1_call2 (even_ok _ n 13 _ C w_19 (hCr hK) (by decide) (by decide)) ?_
 rintro _ w_20 ⟨hE_,rfl⟩
 replace hK:=hK.trans hE_
 replace hc1:=hc1.ext hE_
 replace hD1:=hD1.ext hE_
 replace hc2:=hc2.ext hE_
 replace hD2:=hD2.ext hE_
 replace hc3:=hc3.ext hE_
 replace hD3:=hD3.ext hE_
 replace hc4:=hc4.ext hE_
 replace hD4:=hD4.ext hE_
 replace hX:=hX.trans hE_
 clear hE_
 rw [h0,hv2]
 refine gg ?_
 refine gg ?_
 refine R1_call2 (sfactors_ok _ n 5 M w_20 (hAr hK) hn1 hn4 (by decide)) ?_
 rintro _ w_21 ⟨hE_,u1,D1,rfl,hL1,hS1,hQ1⟩
 replace hK:=hK.trans hE_
 replace hc1:=hc1.ext hE_
 replace hD1:=hD1.ext hE_
 replace hc2:=hc2.ext hE_
 replace hD2:=hD2.ext hE_
 replace hc3:=hc3.ext hE_
 replace hD3:=hD3.ext hE_
 replace hc4:=hc4.ext hE_
 replace hD4:=hD4.ext hE_
 replace hX:=hX.trans hE_
 clear hE_
 have hK1:Ext w_21 w_21:=Ext.refl _
 refine gg ?_
 refine gg ?_
 refine R1_call2 (sfactors_ok _ n 13 C w_21 (hCr hK) hn1 hn4 (by decide)) ?_
 rintro _ w_22 ⟨hE_,u2,D2,rfl,hL2,hS2,hQ2⟩
 replace hK:=hK.trans hE_
 replace hc1:=hc1.ext hE_
 replace hD1:=hD1.ext hE_
 replace hc2:=hc2.ext hE_
 replace hD2:=hD2.ext hE_
 replace hc3:=hc3.ext hE_
 replace hD3:=hD3.ext hE_
 replace hc4:=hc4.ext hE_
 replace hD4:=hD4.ext hE_
 replace hK1:=hK1.trans hE_
 replace hX:=hX.trans hE_
 clear hE_
 have hK2:Ext w_22 w_22:=Ext.refl _
 have hDD:∀ k,k < n→D1 k k = D2 k k:=fun k hk=>Go.Sm.smith_unique hS1 hS2 (hQ1.symm.trans (hQ.trans hQ2)) hk
 have hsg:(det n M).sign = 1:=Int.sign_eq_one_of_pos hdpos
 have hevd:(decide (0 = 0∧∀ i,i < n→M i i % 2 = 0)) = (decide (0 = 0∧∀ i,i < n→C i i % 2 = 0)):=decide_eq_decide.2 ⟨fun h=>⟨rfl,hev.1 h.2⟩,fun h=>⟨rfl,hev.2 h.2⟩⟩
 obtain ⟨hD1_u,hD1_v,hD1_B,hD1_V⟩:=id hD1
 obtain ⟨hD1_0,hD1_1⟩:=blkP hD1_B
 refine gg ?_
 refine gg ?_
 refine R1_call2 (rsign_ok _ _ _ 111 w_22 hD1_V.1 (by decide)) ?_
 rintro _ w_23 ⟨hE_,rfl⟩
 replace hK:=hK.trans hE_
 replace hc1:=hc1.ext hE_
 replace hD1:=hD1.ext hE_
 replace hc2:=hc2.ext hE_
 replace hD2:=hD2.ext hE_
 replace hc3:=hc3.ext hE_
 replace hD3:=hD3.ext hE_
 replace hc4:=hc4.ext hE_
 replace hD4:=hD4.ext hE_
 replace hK1:=hK1.trans hE_
 replace hK2:=hK2.trans hE_
 replace hX:=hX.trans hE_
 clear hE_
 rw [hsg]
 clear hD1_0 hD1_1
 obtain ⟨hD1_u,hD1_v,hD1_B,hD1_V⟩:=id hD1
 obtain ⟨hD1_0,hD1_1⟩:=blkP hD1_B
 obtain ⟨hD2_u,hD2_v,hD2_B,hD2_V⟩:=id hD2
 obtain ⟨hD2_0,hD2_1⟩:=blkP hD2_B
 refine gg ?_
 refine gg ?_
 refine R1_call2 (rsame_ok _ _ _ _ _ _ 111 111 w_23 (hD1_V.2 rfl) (hD2_V.2 rfl) (by decide) (by decide) bD bD) ?_
 rintro _ w_24 ⟨hE_,rfl⟩
 replace hK:=hK.trans hE_
 replace hc1:=hc1.ext hE_
 replace hD1:=hD1.ext hE_
 replace hc2:=hc2.ext hE_
 replace hD2:=hD2.ext hE_
 replace hc3:=hc3.ext hE_
 replace hD3:=hD3.ext hE_
 replace hc4:=hc4.ext hE_
 replace hD4:=hD4.ext hE_
 replace hK1:=hK1.trans hE_
 replace hK2:=hK2.trans hE_
 replace hX:=hX.trans hE_
 clear hE_
 rw [decide_eq_true (rfl:det n M = det n M)]
 clear hD1_0 hD1_1 hD2_0 hD2_1
 refine gg ?_
 obtain ⟨hD3_u,hD3_v,hD3_B,hD3_V⟩:=id hD3
 obtain ⟨hD3_0,hD3_1⟩:=blkP hD3_B
 obtain ⟨hD4_u,hD4_v,hD4_B,hD4_V⟩:=id hD4
 obtain ⟨hD4_0,hD4_1⟩:=blkP hD4_B
 refine gg ?_
 refine gg ?_
 refine R1_call2 (rsame_ok _ _ _ _ _ _ 5 5 w_24 (hD3_V.2 rfl) (hD4_V.2 rfl) (by decide) (by decide) bC bC) ?_
 rintro _ w_25 ⟨hE_,rfl⟩
 replace hK:=hK.trans hE_
 replace hc1:=hc1.ext hE_
 replace hD1:=hD1.ext hE_
 replace hc2:=hc2.ext hE_
 replace hD2:=hD2.ext hE_
 replace hc3:=hc3.ext hE_
 replace hD3:=hD3.ext hE_
 replace hc4:=hc4.ext hE_
 replace hD4:=hD4.ext hE_
 replace hK1:=hK1.trans hE_
 replace hK2:=hK2.trans hE_
 replace hX:=hX.trans hE_
 clear hE_
 rw [decide_eq_true (rfl:((gcdM n M n:Nat):Int) = _)]
 refine gg ?_
 rw [hevd,beq_self_eq_true]
 refine gg ?_
 refine gg ?_
 refine R1_call2 (rsameList_ok _ _ _ _ 34359738368 _ _ w_25 (hL1.extC hK1) (hL2.extC hK2) (by decide)) ?_
 rintro _ w_26 ⟨hE_,b,rfl,hb⟩
 replace hK:=hK.trans hE_
 replace hc1:=hc1.ext hE_
 replace hD1:=hD1.ext hE_
 replace hc2:=hc2.ext hE_
 replace hD2:=hD2.ext hE_
 replace hc3:=hc3.ext hE_
 replace hD3:=hD3.ext hE_
 replace hc4:=hc4.ext hE_
 replace hD4:=hD4.ext hE_
 replace hK1:=hK1.trans hE_
 replace hK2:=hK2.trans hE_
 replace hX:=hX.trans hE_
 clear hE_
 obtain rfl:b = true:=hb.2 ⟨rfl,fun k hk=>hDD k hk⟩
 clear hb
 refine gg ?_
 refine gg ?_
 refine R1_call2 (awake7_ok w_26 (hm.ext hX)) ?_
 rintro _ w_27 ⟨hE_,rfl⟩
 replace hK:=hK.trans hE_
 replace hc1:=hc1.ext hE_
 replace hD1:=hD1.ext hE_
 replace hc2:=hc2.ext hE_
 replace hD2:=hD2.ext hE_
 replace hc3:=hc3.ext hE_
 replace hD3:=hD3.ext hE_
 replace hc4:=hc4.ext hE_
 replace hD4:=hD4.ext hE_
 replace hK1:=hK1.trans hE_
 replace hK2:=hK2.trans hE_
 replace hX:=hX.trans hE_
 clear hE_
 refine gg ?_
 exact ret1 (v:=.bool _) rfl rfl ⟨hX,rfl⟩
end Go.Proofs.YtncbjgblcofddaaGreatDoor
