/- Joined: Rpr, Lgl. -/
import Derived.Test.YtncbjgblcofddaaGreatDoorQpa
import Derived.Test.YtncbjgblcofddaaGreatDoorQoh
import Derived.Test.YtncbjgblcofddaaGreatDoorQos
import Derived.Test.YtncbjgblcofddaaGreatDoorQoj
import Derived.Test.YtncbjgblcofddaaGreatDoorQox
import Derived.Test.YtncbjgblcofddaaGreatDoorQot
/- The reference's row and Parse of a Gram matrix. -/
namespace Go.Proofs.YtncbjgblcofddaaGreatDoor
open Go Go.Eng Go.Num Go.Dig Go.Proofs
def rowN (l:List UInt8) (j:Nat):Int:=pval ((wd 32 l).getD j [])
def RRow (w:World) (l:List UInt8) (i:Nat) (v:Value) (w':World):Prop :=
 Ext w w'∧((¬ okRow i l∧v = .tuple #[.slice none 0 0,.bool false]) ∨ (okRow i l∧∃ u,v = .tuple #[u,.bool true]∧GrowB w' u (i + 1) true 209 (rowN l)∧∀ b,some b = u.ownBlock→w.heap.size≤b))
set_option maxHeartbeats 16000000 in
theorem rrow_ok (l:List UInt8) (i:Nat) (w:World) (hm:ML w) (hl:l.length < 4294967281) (hi:i < 1000) :
 Meets Tryz.prog 90 #[Tx l,.int .i64 ((i + 1:Nat):Int)] w (RRow w l i):=by
 refine fn_W (n:=37) Tryz.func90 rfl rfl (by kernel_rfl) (by simp) ?_
 have hX:Ext w w:=Ext.refl w
 refine gb ?_
 refine R1_call2 (split_ok l 32 w hm hl) ?_
 rintro _ w1 ⟨hE1,rfl,hTL⟩
 obtain ⟨gW,hgW⟩ : ∃ g,g = w.heap.size:=⟨_,rfl⟩
 rw [← hgW] at hTL ⊢
 obtain ⟨ws,hws⟩ : ∃ ws,ws = wd 32 l:=⟨_,rfl⟩
 rw [← hws] at hTL ⊢
 have hok:okRow i l ↔ ws.length = i + 1∧∀ w ∈ ws,okNum w:=by rw [hws]; exact Iff.rfl
 have hwl:∀ x ∈ ws,x.length≤l.length:=by rw [hws]; exact wd_mem_le 32 l
 replace hX:=hX.trans hE1
 by_cases hlen:ws.length = i + 1
 rotate_left
 · refine gb ?_
   refine W_seq ?_
   refine gb ?_
   exact ret2 (v:=.slice _ _ _) (v':=.bool _) rfl rfl rfl ⟨hX,.inl ⟨fun h=>hlen (hok.1 h).1,rfl⟩⟩
 rw [hlen]
 refine gb ?_
 refine W_seq ?_
 refine gb ?_
 refine W_seqM (fun f w'=>∃ vS,f 7 = vS∧Ext w w'∧GrowB w' vS (i + 1) true 209 (rowN l)∧okRow i l∧∀ b,some b = vS.ownBlock→w.heap.size≤b) ?_ ?_
 · refine gb ?_
   refine W_loop (fun q f w'=>∃ j vS,q = i + 1 - j∧j≤i + 1∧f 7 = vS∧f 18 = .slice (some ⟨gW,0,none⟩) (i + 1) (i + 1)∧f 19 = .int .i64 (((i + 1):Nat):Int)∧f 20 = .int .i64 ((j:Nat):Int)∧Ext w w'∧Ext w1 w'∧GrowB w' vS j true 209 (rowN l)∧(∀ b,some b = vS.ownBlock→w1.heap.size≤b)∧∀ k (hk:k < ws.length),k < j→okNum ws[k])
    (i + 1) ⟨0,.slice none 0 0,rfl,Nat.zero_le _,rfl,rfl,rfl,rfl,hX,Ext.refl _,GrowB.nil,(fun b hb=>by cases hb),fun k _ h=>absurd h (by omega)⟩ ?_
   have hs1:=hE1.size
   clear hX
   rintro q f w' ⟨j,vS,rfl,hj,hf7,hf18,hf19,hf20,hX,hK,hG,hown,hall⟩
   rw [ui hf7,ui hf18,ui hf19,ui hf20]
   clear hf7 hf18 hf19 hf20
   by_cases hjl:j < i + 1
   rotate_left
   · refine gb ?_
     obtain rfl:j = i + 1:=by omega
     refine ⟨vS,rfl,hX,hG,hok.2 ⟨hlen,fun x hx=>?_⟩,fun b hb=>by have:=hown b hb; omega⟩
     obtain ⟨k,hk,rfl⟩:=List.getElem_of_mem hx
     exact hall k hk (by omega)
   have kw:=(hTL.ext hK) j (by omega)
   obtain ⟨wj,hwj⟩ : ∃ x,x = ws.getD j []:=⟨_,rfl⟩
   have hwj2:ws[j]'(by omega) = wj:=by rw [hwj]; simp [List.getD,show j < ws.length by omega]
   have hmem:wj ∈ ws:=by rw [← hwj2]; exact List.getElem_mem _
   have hwjl:=hwl wj hmem
   rw [← hwj] at kw
   have hX:Ext w w':=hX
   have hQ:Ext w' w':=Ext.refl _
   refine gb ?_
   refine gb ?_
   refine R1_call2 (rparse_ok wj w' (by omega)) ?_
   rintro _ w_1 ⟨hE_,x,y,e,rfl,hcv,he⟩
   replace hQ:=hQ.trans hE_
   replace hK:=hK.trans hE_
   replace hX:=hX.trans hE_
   clear hE_
   have bp:Bd 209 (if okNum wj then pval wj else 0):=by
    split
    · rename_i h; exact pval_bd h
    · exact Bd.zero _
   refine gb ?_
   refine gb ?_
   refine R1_alloc (.inl rfl) z_Int ?_
   intro w_2 hB0_ hE_ hs_
   have h9:=Bx.zero (N:=1) true hB0_
   obtain ⟨g9,hg_⟩ : ∃ g,g = w_1.heap.size:=⟨_,rfl⟩
   rw [← hg_] at h9 ⊢
   have hfr_g9:w.heap.size≤g9:=by have:=hX.size; omega
   have hfr_hQ_g9:w'.heap.size≤g9:=by have:=hQ.size; omega
   have hfr_hK_g9:w1.heap.size≤g9:=by have:=hK.size; omega
   replace hQ:=hQ.trans hE_
   replace hK:=hK.trans hE_
   replace hcv:=hcv.ext hE_
   replace hX:=hX.trans hE_
   clear hB0_ hs_ hg_ hE_
   refine gb ?_
   refine gb ?_
   refine R1_storeBx (by first | exact .inl rfl | exact .inr ⟨rfl,fun _ h=>h.mono fun b _ e=>by omega⟩) rfl rfl h9 (hcv.ev true bp) ?_
   intro w_3 h9 hC_ hk_ hs_
   replace hQ:=hC_.ext_of hQ (fun b hb=>by omega)
   replace hK:=hC_.ext_of hK (fun b hb=>by omega)
   replace hcv:=hcv.kp hk_
   replace hX:=hC_.ext_of hX (fun b hb=>by omega)
   clear hC_ hk_ hs_
   refine gb ?_
   refine W_seq ?_
   by_cases hn:okNum wj
   rotate_left
   · have he0:¬ e = 0:=fun h=>hn (he.1 h)
     refine gb ?_
     exact ret2 (v:=.slice _ _ _) (v':=.bool _) rfl rfl rfl ⟨hX,.inl ⟨fun h=>hn ((hok.1 h).2 _ hmem),rfl⟩⟩
   obtain rfl:e = 0:=he.2 hn
   rw [if_pos hn] at h9 hcv bp
   clear kw
   obtain ⟨h9_u,h9_v,h9_B,h9_V⟩:=id h9
   obtain ⟨h9_0,h9_1⟩:=blkP h9_B
   refine gb ?_
   refine R1_sliceE1 (.inl rfl) rfl ?_
   intro w6 hB6 hE6 hs6
   obtain ⟨p1,p2⟩:=blkP hB6
   have hQ6:=hQ.trans hE6
   refine gb ?_
   refine R1_appE (.inl rfl) rfl rfl (hG.ext hQ6) p1 p2 (h9_V.ext hE6) (by omega) ?_
   intro vS' w7 hG7 hk7 hC7 hv7
   have hs6':=hQ6.size
   have hKs:=hK.size
   replace hG7:GrowB w7 vS' (j + 1) true 209 (rowN l):=hG7.congr fun q _=>by
    split
    · rename_i e; rw [e]; unfold rowN; rw [← hws,← hwj]
    · rfl
   have hX7:=hC7.ext_of (hX.trans hE6) (fun b hb=>by have:=hown b hb; omega)
   have hK7:=hC7.ext_of (hK.trans hE6) (fun b hb=>by have:=hown b hb; omega)
   refine gb ?_
   refine ⟨_,?_,j + 1,vS',rfl,by omega,rfl,rfl,rfl,rfl,hX7,hK7,hG7,fun b hb=>?_,fun k hk h=>?_⟩
   · omega
   · rcases hv7 with e | e
     · rw [e] at hb; exact hown b hb
     · rw [e] at hb; injection hb with hb; omega
   · by_cases e:k = j
     · subst e; rw [hwj2]; exact hn
     · exact hall k hk (by omega)
 clear hX
 rintro f w' ⟨vS,hf7,hX,hG,hyes,hown⟩
 rw [ui hf7]
 clear hf7
 obtain ⟨A',c',rfl⟩:=hG.slice
 refine gb ?_
 exact ret2 (v:=.slice _ _ _) (v':=.bool _) rfl rfl rfl ⟨hX,.inr ⟨hyes,_,rfl,hG,hown⟩⟩
theorem drop_one {ws:List (List UInt8)} {n:Nat} (h:ws.length = n + 2):ws.drop (n + 1) = [ws.getD (n + 1) []]:=by
 rw [List.drop_eq_getElem_cons (show n + 1 < ws.length by omega),List.drop_of_length_le (by omega)]
 simp [List.getD,show n + 1 < ws.length by omega]
theorem rowE_len {ws:List (List UInt8)}:∀ (k i:Nat),1≤k→rowE ws k i = 0→i + k + 1 < ws.length
 | 1,i,_,h=>by
  rw [rowE] at h
  split at h
  · rename_i h1; omega
  · omega
 | k + 2,i,_,h=>by
  rw [rowE] at h
  split at h
  · have:=rowE_len (k + 1) (i + 1) (by omega) h; omega
  · omega
theorem perr_head {ws:List (List UInt8)} (h:¬ (1 < ws.length∧okHd (ws.getD 0 []))):perr ws = 1:=by unfold perr; rw [if_neg h]
theorem perr_row {ws:List (List UInt8)} {e:Nat} (h:1 < ws.length∧okHd (ws.getD 0 [])) (h2:rowE ws (dimT (ws.getD 0 [])) 0 = e) (he:e ≠ 0):perr ws = e:=by
 subst h2
 unfold perr; rw [if_pos h,if_pos he]
theorem perr_end {ws:List (List UInt8)} (h:1 < ws.length∧okHd (ws.getD 0 [])) (h2:rowE ws (dimT (ws.getD 0 [])) 0 = 0) (h3:¬ ws.drop (dimT (ws.getD 0 []) + 1) = [[]]):perr ws = dimT (ws.getD 0 []) + 2:=by
 unfold perr; rw [if_pos h,if_neg (fun h=>h h2),if_neg h3]
theorem perr_ok {ws:List (List UInt8)} (h:1 < ws.length∧okHd (ws.getD 0 [])) (h2:rowE ws (dimT (ws.getD 0 [])) 0 = 0) (h3:ws.drop (dimT (ws.getD 0 []) + 1) = [[]]):perr ws = 0:=by
 unfold perr; rw [if_pos h,if_neg (fun h=>h h2),if_pos h3]
set_option maxHeartbeats 32000000 in
theorem rgparse_ok (s:List UInt8) (w:World) (hm:ML w) (hs:s.length < 4294967281) :
 Meets Tryz.prog 35 #[Tx s] w fun v w'=>Ext w w'∧gpR w (wd 10 s) v w':=by
 refine fn_W (n:=128) Tryz.func35 rfl rfl (by kernel_rfl) (by simp) ?_
 have hX:Ext w w:=Ext.refl w
 refine gb ?_
 refine R1_call2 (split_ok s 10 w hm hs) ?_
 rintro _ w1 ⟨hE1,rfl,hTL⟩
 obtain ⟨gL,hgL⟩ : ∃ g,g = w.heap.size:=⟨_,rfl⟩
 rw [← hgL] at hTL ⊢
 obtain ⟨ws,hws⟩ : ∃ ws,ws = wd 10 s:=⟨_,rfl⟩
 rw [← hws] at hTL ⊢
 have hwl:∀ x ∈ ws,x.length≤s.length:=by rw [hws]; exact wd_mem_le 10 s
 have hgl:∀ j,j < ws.length→(ws.getD j []).length≤s.length:=fun j hj=>by
  rw [show ws.getD j [] = ws[j] by simp [List.getD,hj]]
  exact hwl _ (List.getElem_mem _)
 have hlen:ws.length≤s.length + 1:=by rw [hws,wd_len]; have:=List.count_le_length (a:=(10:UInt8)) (l:=s); omega
 obtain ⟨m,hmw⟩ : ∃ m,ws.length = m + 1:=⟨ws.length - 1,by
  have:ws.length ≠ 0:=fun h=>wd_ne 10 s (by rw [← hws]; exact List.length_eq_zero_iff.1 h)
  omega⟩
 rw [hmw]
 replace hX:=hX.trans hE1
 have kl:=hTL m (by omega)
 obtain ⟨last,hlast⟩ : ∃ l,l = ws.getD m []:=⟨_,rfl⟩
 rw [← hlast] at kl
 refine gb ?_
 refine R1_sliceH sl_str rfl rfl (by omega) ?_
 rw [Nat.add_sub_cancel]
 obtain ⟨cap,hcap⟩ : ∃ c,c = m + 1:=⟨_,rfl⟩
 rw [← hcap]
 obtain ⟨l0,hl0⟩ : ∃ l,l = ws.getD 0 []:=⟨_,rfl⟩
 have k0:=hTL 0 (by omega)
 rw [← hl0] at k0
 replace k0:w1.cell? ⟨gL,0 + 0 * 1,none⟩ = some (Tx l0):=k0
 refine gb ?_
 refine W_seqM (fun f w'=>∃ z:Int,f 5 = .slice (some ⟨gL,0,none⟩) m cap∧f 6 = Tx last∧f 7 = .int .i64 z∧w1 = w'∧-100≤z∧z≤1000∧((1 < ws.length∧okHd l0) ↔ (1≤z∧z≤8))∧(1≤z→z = ((dimT l0:Nat):Int))) ?_ ?_
 · refine W_seq ?_
   by_cases hm0:m = 0
   · subst hm0
     refine gb ?_
     exact ⟨0,rfl,rfl,rfl,rfl,by decide,by decide,⟨fun h=>by omega,fun h=>by omega⟩,fun h=>by omega⟩
   have hmp:0 < m:=by omega
   by_cases hl6:l0.length = 6
   rotate_left
   · refine gb ?_
     exact ⟨0,rfl,rfl,rfl,rfl,by decide,by decide,⟨fun h=>absurd h.2.1 hl6,fun h=>by omega⟩,fun h=>by omega⟩
   refine gb ?_
   refine R1_takeS ty_str (b:=5) rfl rfl (by omega) ?_
   by_cases hf:l0.take 5 = [102,111,114,109,32]
   rotate_left
   · refine gb ?_
     rw [show decide (l0.take 5 = [102,111,114,109,32]) = false from decide_eq_false hf]
     refine gb ?_
     exact ⟨0,rfl,rfl,rfl,rfl,by decide,by decide,⟨fun h=>absurd h.2.2.1 hf,fun h=>by omega⟩,fun h=>by omega⟩
   have hc5:l0[5]? = some (l0.getD 5 0):=by simp [List.getD,hl6]
   obtain ⟨c,hc⟩ : ∃ c,c = l0.getD 5 0:=⟨_,rfl⟩
   rw [← hc] at hc5
   have hc256:c.toNat < 256:=UInt8.toNat_lt c
   refine gb ?_
   rw [show decide (l0.take 5 = [102,111,114,109,32]) = true from decide_eq_true hf]
   refine gb ?_
   refine R1_idxS ty_str rfl (j:=5) rfl hc5 ?_
   refine gb ?_
   have hdim:dimT l0 = c.toNat - 48:=by unfold dimT; rw [← hc]
   refine ⟨((c.toNat:Nat):Int) - 48,rfl,rfl,rfl,rfl,by omega,by omega,⟨fun h=>?_,fun h=>⟨by omega,hl6,hf,by rw [← hc]; omega,by rw [← hc]; omega⟩⟩,fun h=>by rw [hdim]; omega⟩
   have h3:=h.2.2.2
   rw [← hc] at h3
   omega
 rintro f _ ⟨z,hf5,hf6,hf7,rfl,hz1,hz2,hzi,hzd⟩
 rw [ui hf5,ui hf6]
 clear hf5 hf6
 rw [ui hf7]
 clear hf7
 refine W_seq ?_
 have hXw:=hX
 by_cases hhd:1 < ws.length∧okHd l0
 rotate_left
 · have hzb:z < 1 ∨ 8 < z:=by
    have:¬ (1≤z∧z≤8):=fun h=>hhd (hzi.2 h)
    omega
   have hpe:perr ws = 1:=perr_head (by rw [← hl0]; exact hhd)
   by_cases hzl:z < 1
   · refine gb ?_
     exact ret3 (v:=.slice none 0 0) (v':=.int _ _) (v'':=.int _ _) rfl rfl rfl rfl ⟨hX,.inl ⟨by rw [hpe]; decide,by rw [hpe]⟩⟩
   · have hz8:8 < z:=by omega
     refine gb ?_
     exact ret3 (v:=.slice none 0 0) (v':=.int _ _) (v'':=.int _ _) rfl rfl rfl rfl ⟨hX,.inl ⟨by rw [hpe]; decide,by rw [hpe]⟩⟩
 obtain ⟨hz1',hz8'⟩:=hzi.1 hhd
 obtain ⟨n,hn⟩ : ∃ n,n = dimT l0:=⟨_,rfl⟩
 have hzn:z = ((n:Nat):Int):=by rw [hn]; exact hzd hz1'
 subst hzn
 have hn1:1≤n:=by omega
 have hn8:n≤8:=by omega
 have hnl:¬ n < 1:=by omega
 refine gb ?_
 refine R1_call2 (zero_ok n n w1 (by omega) (by omega)) ?_
 rintro _ w2 ⟨hE2,gO,gs,rfl,hgO,hgs,hO⟩
 have hW2:WMat w2 gO gs n n true (fun _ _=>209) (fun _ _=>0):=hO.wm true fun _ _ _ _=>Bd.zero _
 have hs01:=hE1.size
 have hX2:=hX.trans hE2
 have hgL1:gL < w1.heap.size:=World.block_lt_of_cell? w1 _ kl
 clear hO hX hXw
 refine gb ?_
 refine W_seqM (fun f w'=>∃ M,f 5 = .slice (some ⟨gL,0,none⟩) m cap∧f 6 = Tx last∧f 7 = .int .i64 ((n:Nat):Int)∧f 8 = .slice (some ⟨gO,0,none⟩) n n∧Ext w w'∧WMat w' gO gs n n true (fun _ _=>209) M∧rowE ws n 0 = 0∧∀ a c,a < n→c≤a→M a c = entT ws a c∧M c a = entT ws a c) ?_ ?_
 · refine gb ?_
   refine W_loop (fun q f w'=>∃ i M,q = n - i∧i≤n∧f 5 = .slice (some ⟨gL,0,none⟩) m cap∧f 6 = Tx last∧f 7 = .int .i64 ((n:Nat):Int)∧f 8 = .slice (some ⟨gO,0,none⟩) n n∧f 58 = .slice (some ⟨gO,0,none⟩) n n∧f 59 = .int .i64 ((n:Nat):Int)∧f 60 = .int .i64 ((i:Nat):Int)∧Ext w w'∧Ext w1 w'∧WMat w' gO gs n n true (fun _ _=>209) M∧rowE ws n 0 = rowE ws (n - i) i∧∀ a c,a < i→c≤a→M a c = entT ws a c∧M c a = entT ws a c)
    n ⟨0,_,rfl,Nat.zero_le _,rfl,rfl,rfl,rfl,rfl,rfl,rfl,hX2,hE2,hW2,rfl,fun a c h=>absurd h (by omega)⟩ ?_
   clear hX2 hE2 hW2
   rintro q f w' ⟨i,M,rfl,hi,hf5,hf6,hf7,hf8,hf58,hf59,hf60,hX,hK,hW,hro,hall⟩
   rw [ui hf5,ui hf6,ui hf7,ui hf8,ui hf58,ui hf59,ui hf60]
   clear hf5 hf6 hf7 hf8 hf58 hf59 hf60
   by_cases hlt:i < n
   rotate_left
   · refine gb ?_
     obtain rfl:i = n:=by omega
     exact ⟨M,rfl,rfl,rfl,rfl,hX,hW,by rw [hro,Nat.sub_self]; rfl,hall⟩
   have hdn:dimT (ws.getD 0 []) = n:=by rw [← hl0,← hn]
   have hhd':1 < ws.length∧okHd (ws.getD 0 []):=by rw [← hl0]; exact hhd
   refine gb ?_
   refine W_seq ?_
   by_cases hline:i + 2 < ws.length
   rotate_left
   · have hge:m≤i + 1:=by omega
     have hpe:perr ws = i + 2:=perr_row hhd' (by rw [hdn,hro]; exact rowE_no hlt (fun h=>hline h.1)) (by omega)
     refine gb ?_
     exact ret3 (v:=.slice none 0 0) (v':=.int _ _) (v'':=.int _ _) rfl rfl rfl rfl ⟨hX,.inl ⟨by rw [hpe]; omega,by rw [hpe]⟩⟩
   have hge:¬ m≤i + 1:=by omega
   have kl1:=(hTL.ext hK) (i + 1) (by omega)
   obtain ⟨ln,hln⟩ : ∃ l,l = ws.getD (i + 1) []:=⟨_,rfl⟩
   have hlnl:=hgl (i + 1) (by omega)
   rw [← hln] at kl1 hlnl
   refine gb ?_
   refine R1_call2 (rrow_ok ln i w' (hm.ext hX) (by omega) (by omega)) ?_
   rintro _ w5 ⟨hE5,⟨hno,rfl⟩ | ⟨hyes,u,rfl,hG,hown⟩⟩
   · have hpe:perr ws = i + 2:=perr_row hhd' (by rw [hdn,hro]; exact rowE_no hlt (fun h=>hno (by rw [hln]; exact h.2))) (by omega)
     refine gb ?_
     refine W_seq ?_
     refine gb ?_
     exact ret3 (v:=.slice none 0 0) (v':=.int _ _) (v'':=.int _ _) rfl rfl rfl rfl ⟨hX.trans hE5,.inl ⟨by rw [hpe]; omega,by rw [hpe]⟩⟩
   clear kl1
   obtain ⟨gU,cu,rfl,hRU⟩:=hG.rg (by omega)
   have hgU:w'.heap.size≤gU:=hown gU rfl
   have hro2:=hro.trans (rowE_yes hlt ⟨hline,by rw [← hln]; exact hyes⟩)
   have hgU2:∀ k,k < n→gs k < gU:=fun k hk=>by have:=(hW.row k hk).lt; omega
   have hX5:=hX.trans hE5
   have hK5:=hK.trans hE5
   have hW5:=hW.ext hE5
   have hent:∀ j,entT ws i j = rowN ln j:=fun j=>by unfold entT rowN; rw [← hln]
   clear hX hK hW hG hown
   refine gb ?_
   refine W_seq ?_
   refine gb ?_
   refine W_loop (fun q f w'=>∃ j M,q = i + 1 - j∧j≤i + 1∧f 5 = .slice (some ⟨gL,0,none⟩) m cap∧f 6 = Tx last∧f 7 = .int .i64 ((n:Nat):Int)∧f 8 = .slice (some ⟨gO,0,none⟩) n n∧f 58 = .slice (some ⟨gO,0,none⟩) n n∧f 59 = .int .i64 ((n:Nat):Int)∧f 60 = .int .i64 ((i:Nat):Int)∧f 9 = .int .i64 ((i:Nat):Int)∧f 10 = .slice (some ⟨gU,0,none⟩) (i + 1) cu∧f 86 = .int .i64 (((i + 1):Nat):Int)∧f 87 = .int .i64 ((j:Nat):Int)∧Ext w w'∧Ext w1 w'∧WMat w' gO gs n n true (fun _ _=>209) M∧RowG w' gU (i + 1) cu true (fun _=>209) (rowN ln)∧(∀ a c,a < i→c≤a→M a c = entT ws a c∧M c a = entT ws a c)∧∀ c,c < j→M i c = entT ws i c∧M c i = entT ws i c)
    (i + 1) ⟨0,M,rfl,Nat.zero_le _,rfl,rfl,rfl,rfl,rfl,rfl,rfl,rfl,rfl,rfl,rfl,hX5,hK5,hW5,hRU,hall,fun c h=>absurd h (by omega)⟩ ?_
   clear hX5 hK5 hW5 hRU hall M hE5
   rintro q f w7 ⟨j,M,rfl,hj,hf5,hf6,hf7,hf8,hf58,hf59,hf60,hf9,hf10,hf86,hf87,hX,hK,hW,hRU,hall,hrowj⟩
   rw [ui hf5,ui hf6,ui hf7,ui hf8,ui hf58,ui hf59,ui hf60,ui hf9,ui hf10,ui hf86,ui hf87]
   clear hf5 hf6 hf7 hf8 hf58 hf59 hf60 hf9 hf10 hf86 hf87
   by_cases hjl:j < i + 1
   rotate_left
   · refine gb ?_
     obtain rfl:j = i + 1:=by omega
     refine ⟨_,?_,i + 1,M,rfl,by omega,rfl,rfl,rfl,rfl,rfl,rfl,rfl,hX,hK,hW,hro2,fun a c ha hc=>?_⟩
     · omega
     · by_cases e:a = i
       · subst e; exact hrowj c (by omega)
       · exact hall a c (by omega) hc
   refine gb ?_
   refine W_regD [(0,3),(1,3),(2,3),(3,0),(4,3),(5,3),(6,3),(7,3),(8,0),(9,3),(10,3),(11,3),(12,3),(13,0),(14,3),(15,3),(16,3),(17,0),(18,1),(19,3),(20,2),(21,3),(22,2)] mixed (by kernel_rfl) (fun w8 hE8 _=>?_)
   have r1:=(hW.ext hE8).at (i:=i) hlt
   have r2:=(hW.ext hE8).at (i:=j) (by omega)
   obtain ⟨x,y,e1,e2,hv⟩:=(hRU.ext hE8).at hjl
   refine gb ?_
   refine R1_call1 (rnormalize_ok _ _ _ 209 w8 hv.1 (by decide)) ?_
   rintro _ w9 ⟨hE9,x2,y2,rfl,hcv⟩
   refine ⟨hE9,?_⟩
   have hv9:=hv.ext hE9
   have hW9:=(hW.ext hE8).ext hE9
   have hRU9:=(hRU.ext hE8).ext hE9
   refine gb ?_
   refine R1_storeE (.inl rfl) rfl rfl (hW9.row i hlt) (by omega) hv9 ?_
   intro w10 hr10 hC10 hk10 hs10
   have hW10:=hW9.put hlt hr10 hC10 hk10
   have hcv10:=hcv.kp hk10
   refine gb ?_
   refine R1_storeE (.inl rfl) rfl rfl (hW10.row j (by omega)) hlt (hcv10.ev true hv.bd) ?_
   intro w11 hr11 hC11 hk11 hs11
   have hW11:=hW10.put (by omega) hr11 hC11 hk11
   have hgi:=hgs i hlt
   have hgj:=hgs j (by omega)
   have hgi2:=hgU2 i hlt
   have hgj2:=hgU2 j (by omega)
   have hX11:=hC11.ext_of (hC10.ext_of (hX.trans (hE8.trans hE9)) (fun b e=>by omega)) (fun b e=>by omega)
   have hK11:=hC11.ext_of (hC10.ext_of (hK.trans (hE8.trans hE9)) (fun b e=>by omega)) (fun b e=>by omega)
   have hRU11:=(hRU9.kp hk10 hC10 (by omega)).kp hk11 hC11 (by omega)
   refine gb ?_
   refine ⟨_,?_,j + 1,set2 (set2 M i j (rowN ln j)) j i (rowN ln j),rfl,by omega,rfl,rfl,rfl,rfl,rfl,rfl,rfl,rfl,rfl,rfl,rfl,hX11,hK11,hW11.congr (fun a c _ _=>⟨?_,rfl⟩),hRU11,fun a c ha hc=>?_,fun c hc=>?_⟩
   · omega
   · simp only [set2]
     split
     · exact Nat.le_refl _
     · split <;> exact Nat.le_refl _
   · obtain ⟨e1,e2⟩:=hall a c ha hc
     simp only [set2]
     rw [if_neg (by omega),if_neg (by omega),if_neg (by omega),if_neg (by omega)]
     exact ⟨e1,e2⟩
   · by_cases ec:c = j
     · subst ec
       rw [hent]
       refine ⟨?_,?_⟩
       · simp only [set2]
         split
         · rfl
         · simp
       · simp [set2]
     · obtain ⟨e1,e2⟩:=hrowj c (by omega)
       simp only [set2]
       rw [if_neg (by omega),if_neg (by omega),if_neg (by omega),if_neg (by omega)]
       exact ⟨e1,e2⟩
 clear hX2 hE2 hW2
 rintro f w' ⟨M,hf5,hf6,hf7,hf8,hX,hW,hro,hall⟩
 rw [ui hf5,ui hf6,ui hf7,ui hf8]
 clear hf5 hf6 hf7 hf8
 have hdn:dimT (ws.getD 0 []) = n:=by rw [← hl0,← hn]
 have hhd':1 < ws.length∧okHd (ws.getD 0 []):=by rw [← hl0]; exact hhd
 have hlen2:=rowE_len n 0 hn1 hro
 have hM:∀ i j,i < n→j < n→M i j = matT ws i j:=fun i j hi hj=>by
  unfold matT
  by_cases h:j≤i
  · rw [Nat.max_eq_left h,Nat.min_eq_right h]; exact (hall i j hi h).1
  · rw [Nat.max_eq_right (by omega),Nat.min_eq_left (by omega)]; exact (hall j i hj (by omega)).2
 have bM:∀ i j,i < n→j < n→Bd 209 (M i j):=fun i j hi hj=>by
  obtain ⟨_,_,_,_,hv⟩:=(hW.row i hi).at hj
  exact hv.bd
 have hbad:¬ ws.drop (n + 1) = [[]]→perr ws = n + 2:=fun h=>by
  have:=perr_end hhd' (by rw [hdn]; exact hro) (by rw [hdn]; exact h)
  rw [hdn] at this; exact this
 refine W_seq ?_
 by_cases hmn:n + 1 < m
 · have hpe:perr ws = n + 2:=hbad (fun h=>by have:=congrArg List.length h; rw [List.length_drop] at this; simp at this; omega)
   refine gb ?_
   exact ret3 (v:=.slice none 0 0) (v':=.int _ _) (v'':=.int _ _) rfl rfl rfl rfl ⟨hX,.inl ⟨by rw [hpe]; omega,by rw [hpe]⟩⟩
 have hmn':m = n + 1:=by omega
 have hdr:ws.drop (n + 1) = [last]:=by rw [drop_one (by omega),hlast,hmn']
 by_cases hla:last = []
 rotate_left
 · have hpe:perr ws = n + 2:=hbad (fun h=>hla (by rw [hdr] at h; simpa using h))
   refine gb ?_
   rw [show decide (¬ last = []) = true from decide_eq_true hla]
   refine gb ?_
   exact ret3 (v:=.slice none 0 0) (v':=.int _ _) (v'':=.int _ _) rfl rfl rfl rfl ⟨hX,.inl ⟨by rw [hpe]; omega,by rw [hpe]⟩⟩
 have hpe:perr ws = 0:=perr_ok hhd' (by rw [hdn]; exact hro) (by rw [hdn,hdr,hla])
 refine gb ?_
 rw [show decide (¬ last = []) = false from decide_eq_false (fun h=>h hla)]
 refine gb ?_
 refine W_seq ?_
 refine gb ?_
 refine R1_call2 (rvalidate_ok _ n 209 (fun _=>n) M w' (hW.o.read bM (by omega) (by omega)) (by decide) (by decide)) ?_
 rintro _ w9 ⟨hE9,rfl⟩
 have hX9:=hX.trans hE9
 have h5:=valE_le n (fun _=>n) M
 have bT:∀ i j,i < n→j < n→Bd 209 (matT ws i j):=fun i j hi hj=>by rw [← hM i j hi hj]; exact bM i j hi hj
 by_cases hv:valE n (fun _=>n) M = 0
 · rw [hv]
   refine gb ?_
   exact ret3 (v:=.slice _ _ _) (v':=.int _ _) (v'':=.int _ _) rfl rfl rfl rfl ⟨hX9,.inr ⟨hpe,n,hdn.symm,hn1,hn8,bT,.inl ⟨valE_same hv fun i j hi hj=>(hM i j hi hj).symm,gO,gs,rfl,by omega,fun i hi=>by have:=hgs i hi; omega,(hW.o.ext hE9).congr hM⟩⟩⟩
 · refine gb ?_
   exact ret3 (v:=.slice none 0 0) (v':=.int _ _) (v'':=.int _ _) rfl rfl rfl rfl ⟨hX9,.inr ⟨hpe,n,hdn.symm,hn1,hn8,bT,.inr ⟨fun h=>hv (valE_same h fun i j hi hj=>hM i j hi hj),rfl⟩⟩⟩
end Go.Proofs.YtncbjgblcofddaaGreatDoor
namespace Go.Proofs.YtncbjgblcofddaaGreatDoor
open Go Go.Eng Go.Num Go.Dig Go.Proofs
open Go.Det (det)
noncomputable def gpE (ws:List (List UInt8)):Nat:=if perr ws = 0 then (if valE (dimT (ws.getD 0 [])) (fun _=>dimT (ws.getD 0 [])) (matT ws) = 0 then 0 else 5) else 2
theorem gpR.rd {w:World} {ws:List (List UInt8)} {v:Value} {w':World} (h:gpR w ws v w') :
 ∃ a m cp,v = .tuple #[.slice a m cp,.int .i64 ((gpE ws:Nat):Int),.int .i64 ((perr ws:Nat):Int)]∧MatE (EC 209) w' (.slice a m cp) (if gpE ws = 0 then dimT (ws.getD 0 []) else 0) (fun _=>dimT (ws.getD 0 [])) (matT ws):=by
 rcases h with ⟨h1,rfl⟩ | ⟨h1,n,hn,hn1,hn8,hb,⟨hv,gO,gs,rfl,_,_,hO⟩ | ⟨hv,rfl⟩⟩
 · have e:gpE ws = 2:=by unfold gpE; rw [if_neg h1]
   exact ⟨_,_,_,by rw [e],by rw [if_neg (by rw [e]; decide)]; exact matC_nil _ _ _ _⟩
 · have e:gpE ws = 0:=by unfold gpE; rw [if_pos h1,← hn,if_pos hv]
   refine ⟨_,_,_,by rw [e,h1],?_⟩
   rw [if_pos e,← hn]
   exact hO.readC hb (by omega) (by omega)
 · have e:gpE ws = 5:=by unfold gpE; rw [if_pos h1,← hn,if_neg hv]
   exact ⟨_,_,_,by rw [e,h1],by rw [if_neg (by rw [e]; decide)]; exact matC_nil _ _ _ _⟩
theorem gpE_le (ws:List (List UInt8)):gpE ws≤5:=by
 unfold gpE
 split
 · split <;> omega
 · omega
theorem gparseR_ok (s:List UInt8) (w:World) (hm:ML w) (hs:s.length < 4294967281) :
 Meets Tryz.prog 27 #[Tx s] w fun v w'=>Ext w w'∧∃ a m cp,v = .tuple #[.slice a m cp,.int .i64 ((gpE (wd 10 s):Nat):Int),.int .i64 ((perr (wd 10 s):Nat):Int)]∧MatE (EC 209) w' (.slice a m cp) (if gpE (wd 10 s) = 0 then dimT ((wd 10 s).getD 0 []) else 0) (fun _=>dimT ((wd 10 s).getD 0 [])) (matT (wd 10 s)) :=
 (gparse_ok s w hm hs).mono fun _ _ h=>⟨h.1,h.2.rd⟩
theorem rgparseR_ok (s:List UInt8) (w:World) (hm:ML w) (hs:s.length < 4294967281) :
 Meets Tryz.prog 35 #[Tx s] w fun v w'=>Ext w w'∧∃ a m cp,v = .tuple #[.slice a m cp,.int .i64 ((gpE (wd 10 s):Nat):Int),.int .i64 ((perr (wd 10 s):Nat):Int)]∧MatE (EC 209) w' (.slice a m cp) (if gpE (wd 10 s) = 0 then dimT ((wd 10 s).getD 0 []) else 0) (fun _=>dimT ((wd 10 s).getD 0 [])) (matT (wd 10 s)) :=
 (rgparse_ok s w hm hs).mono fun _ _ h=>⟨h.1,h.2.rd⟩
set_option maxHeartbeats 32000000 in
theorem lawGramSpoilt {vx v1 v2 v3:Value} {dm kd q m at' how cb:Nat} {ns ms:Nat→Int} {w:World} (hm:ML w)
 (hx:LatV w vx dm kd q ns m ms) (h1:U16V v1 at') (h2:ByteV v2 how) (h3:ByteV v3 cb) :
 Meets Tryz.prog 8 #[vx,v1,v2,v3] w (Law w):=by
 obtain ⟨rfl,hat⟩:=h1
 obtain ⟨rfl,hhow⟩:=h2
 obtain ⟨rfl,hcb⟩:=h3
 obtain ⟨A,cap,A',cap',rfl,hd,hk,hc,hc',hN,hN'⟩:=hx
 have hL:=LatV.agg hd hk hc hc' hN hN'
 have hdm:=Nat.mod_lt dm (show 0 < 4 by decide)
 obtain ⟨n,hn⟩ : ∃ n,n = 1 + dm % 4:=⟨_,rfl⟩
 have hn1:1≤n:=by omega
 have hn4:n≤4:=by omega
 have hn0:n < 9223372036854775808:=by omega
 refine fn_W (n:=108) Tryz.func8 rfl rfl (by kernel_rfl) (by simp) ?_
 have hX:Ext w w:=Ext.refl w
 refine gb ?_
 refine R1_box (v:=.agg _) (.inl rfl) rfl ?_
 intro w_1 hB0_ hE_ hs_
 have hX1:Blk w_1 w.heap.size 25 #[.int .u8 ((dm:Nat):Int),.int .u8 ((kd:Nat):Int),.slice A q cap,.slice A' m cap']:=hB0_
 obtain ⟨gX,hg_⟩ : ∃ g,g = w.heap.size:=⟨_,rfl⟩
 rw [← hg_] at hX1 ⊢
 have hfr_gX:w.heap.size≤gX:=by have:=hX.size; omega
 replace hX:=hX.trans hE_
 clear hB0_ hs_ hg_ hE_
 obtain ⟨x0,x1,x2,x3⟩:=blkQ hX1
 refine gb ?_
 refine R1_load4F (by decide) agg_Lat rfl x0 x1 x2 x3 ?_
 clear x0 x1 x2 x3
 refine gb ?_
 refine gb ?_
 refine R1_call2 (latRaw_ok _ dm kd q m 4 ns ms w_1 (hL w_1 hX) (by decide) (by decide)) ?_
 rintro _ w_2 ⟨hE_,gM,gsM,M,rfl,_,_,hO,h0,hdet,bM⟩
 replace hX1:=hX1.ext hE_
 replace hX:=hX.trans hE_
 clear hE_
 rw [← hn] at hO h0 hdet bM ⊢
 have hok:=okT_bd bM
 refine gb ?_
 refine gb ?_
 refine R1_call2 (rgformatR_ok _ n 5 _ M w_2 (hO.read bM hn0 hn0) (by decide) (by decide)) ?_
 rintro _ w_3 ⟨hE_,rfl⟩
 replace hX:=hX.trans hE_
 clear hE_
 have ef:fmtE n (fun _=>n) M = 0:=by unfold fmtE; rw [if_pos h0,if_pos hok]
 have et:fmtT n (fun _=>n) M = formT n M:=by unfold fmtT; rw [if_pos ef]
 rw [ef,et]
 obtain ⟨t,ht⟩ : ∃ t,t = formT n M:=⟨_,rfl⟩
 rw [← ht]
 have htl:t.length≤200000:=by rw [ht]; exact form_length (show n≤8 by omega) hok
 have htp:0 < t.length:=by rw [ht]; unfold formT headT; simp
 clear et ef hok ht hO h0 hdet bM
 refine gb ?_
 refine R1_conv (by unfold TyD; exact Tryz.underlying60) (by unfold TyD; exact Tryz.underlying3) rfl (wrap_i64n (a:=at') (by omega)) ?_
 refine gb ?_
 refine R1_rem_i64 rfl rfl (by omega) ?_
 obtain ⟨k,hk⟩ : ∃ k,k = at' % t.length:=⟨_,rfl⟩
 have hkt:k < t.length:=by rw [hk]; exact Nat.mod_lt _ htp
 rw [← hk]
 have hXs:=hX
 refine gb ?_
 refine W_seqM (fun f w'=>∃ t',f 9 = Tx t'∧Ext w w'∧t'.length≤500000) ?_ ?_
 · refine gb ?_
   refine R1_rem_u8L (b:=6) rfl rfl (by decide) ?_
   obtain ⟨h,hh⟩ : ∃ h,h = how % 6:=⟨_,rfl⟩
   have hh6:h < 6:=by omega
   rw [← hh]
   obtain ⟨u,hu⟩ : ∃ u:UInt8,u.toNat = cb:=⟨UInt8.ofNat cb,by rw [UInt8.toNat_ofNat']; omega⟩
   rcases (show h = 0 ∨ h = 1 ∨ h = 2 ∨ h = 3 ∨ h = 4 ∨ h = 5 by omega) with rfl | rfl | rfl | rfl | rfl | rfl
   · refine gb ?_
     refine gb ?_
     refine W_regD [(0,3),(1,3),(2,3),(3,3),(7,3),(8,3),(9,3),(10,3),(4,2),(5,0),(6,3),(11,3),(12,3)] mixed (by kernel_rfl) (fun w_4 hE_ _=>?_)
     replace hX:=hX.trans hE_
     clear hE_
     refine gb ?_
     refine R1_takeS ty_str (b:=k) rfl rfl (by omega) ?_
     refine gb ?_
     refine R1_dropS ty_str (a:=k + 1) rfl rfl (by omega) ?_
     refine gb ?_
     refine R1_build1 sl_u8 rfl (.inl rfl) rfl rfl ?_
     intro w6 hB6 hE6 hs6
     rw [← hu] at hB6
     have k6:∀ j (hj:j < [u].length),w6.cell? ((⟨(w_4).heap.size,0,none⟩ : Addr).add j) = some (.int .u8 ([u][j].toNat:Int)):=fun j hj=>by
      have:j = 0:=by simp at hj; exact hj
      subst this
      exact blkS hB6
     refine gb ?_
     refine R1_ofBytes (by decide) by_u8 ty_str rfl (l:=[u]) rfl (fun w' hw=>?_) ?_
     · rcases hw with hw | rfl
       · exact fun j hj=>cell_ext hw (k6 j hj)
       · exact k6
     refine gb ?_
     refine R1_catS rfl rfl (by simp; omega) ?_
     refine gb ?_
     refine R1_catS rfl rfl (by simp; omega) ?_
     refine gb ?_
     exact ⟨_,rfl,hX.trans hE6,by simp; omega⟩
   · refine gb ?_
     refine gb ?_
     refine W_regD [(0,3),(1,3),(2,3),(3,3),(7,3),(8,3),(9,3),(4,2),(5,0),(6,3),(10,3),(11,3)] mixed (by kernel_rfl) (fun w_5 hE_ _=>?_)
     replace hX:=hX.trans hE_
     clear hE_
     refine gb ?_
     refine R1_takeS ty_str (b:=k) rfl rfl (by omega) ?_
     refine gb ?_
     refine R1_dropS ty_str (a:=k) rfl rfl (by omega) ?_
     refine gb ?_
     refine R1_build1 sl_u8 rfl (.inl rfl) rfl rfl ?_
     intro w6 hB6 hE6 hs6
     rw [← hu] at hB6
     have k6:∀ j (hj:j < [u].length),w6.cell? ((⟨(w_5).heap.size,0,none⟩ : Addr).add j) = some (.int .u8 ([u][j].toNat:Int)):=fun j hj=>by
      have:j = 0:=by simp at hj; exact hj
      subst this
      exact blkS hB6
     refine gb ?_
     refine R1_ofBytes (by decide) by_u8 ty_str rfl (l:=[u]) rfl (fun w' hw=>?_) ?_
     · rcases hw with hw | rfl
       · exact fun j hj=>cell_ext hw (k6 j hj)
       · exact k6
     refine gb ?_
     refine R1_catS rfl rfl (by simp; omega) ?_
     refine gb ?_
     refine R1_catS rfl rfl (by simp; omega) ?_
     refine gb ?_
     exact ⟨_,rfl,hX.trans hE6,by simp; omega⟩
   · refine gb ?_
     refine gb ?_
     refine W_regD [(0,3),(1,3),(2,3),(3,3),(4,3),(5,3),(6,3),(7,3),(8,3)] mixed (by kernel_rfl) (fun w_6 hE_ _=>?_)
     replace hX:=hX.trans hE_
     clear hE_
     refine gb ?_
     refine R1_takeS ty_str (b:=k) rfl rfl (by omega) ?_
     refine gb ?_
     refine R1_dropS ty_str (a:=k + 1) rfl rfl (by omega) ?_
     refine gb ?_
     refine R1_catS rfl rfl (by simp; omega) ?_
     refine gb ?_
     exact ⟨_,rfl,hX,by simp; omega⟩
   · refine gb ?_
     refine R1_takeS ty_str (b:=k) rfl rfl (by omega) ?_
     refine gb ?_
     exact ⟨_,rfl,hX,by simp; omega⟩
   · refine gb ?_
     refine R1_dropS ty_str (a:=k) rfl rfl (by omega) ?_
     refine gb ?_
     refine R1_catS rfl rfl (by simp; omega) ?_
     refine gb ?_
     exact ⟨_,rfl,hX,by simp; omega⟩
   · refine gb ?_
     exact ⟨_,rfl,hX,by omega⟩
 clear hX
 rintro f w' ⟨t',hf9,hX,htl'⟩
 rw [ui hf9]
 clear hf9
 obtain ⟨e,he⟩ : ∃ e,e = gpE (wd 10 t'):=⟨_,rfl⟩
 obtain ⟨pe,hpe⟩ : ∃ e,e = perr (wd 10 t'):=⟨_,rfl⟩
 have l1:e≤5:=by rw [he]; exact gpE_le _
 refine gb ?_
 refine gb ?_
 refine R1_call2 (gparseR_ok t' w' (hm.ext hX) (by omega)) ?_
 rintro _ w_7 ⟨hE_,a1,m1,c1,rfl,hM1⟩
 replace hX:=hX.trans hE_
 clear hE_
 rw [← he,← hpe]
 rw [← he] at hM1
 have hK1:Ext w_7 w_7:=Ext.refl _
 refine gb ?_
 refine gb ?_
 refine R1_call2 (rgparseR_ok t' w_7 (hm.ext hX) (by omega)) ?_
 rintro _ w_8 ⟨hE_,a2,m2,c2,rfl,hM2⟩
 replace hK1:=hK1.trans hE_
 replace hX:=hX.trans hE_
 clear hE_
 rw [← he,← hpe]
 rw [← he] at hM2
 have hK2:Ext w_8 w_8:=Ext.refl _
 refine gb ?_
 refine gb ?_
 refine R1_call2 (rsameM_ok _ _ _ _ 209 _ _ _ _ w_8 (hM1.extC hK1) (hM2.extC hK2) (by decide)) ?_
 rintro _ w_9 ⟨hE_,b,rfl,hb⟩
 replace hK1:=hK1.trans hE_
 replace hK2:=hK2.trans hE_
 replace hX:=hX.trans hE_
 clear hE_
 obtain rfl:b = true:=hb.2 ⟨rfl,fun i hi=>⟨rfl,fun j hj=>rfl⟩⟩
 clear hb
 refine gb ?_
 refine gb ?_
 refine R1_call2 (awake7_ok w_9 (hm.ext hX)) ?_
 rintro _ w_10 ⟨hE_,rfl⟩
 replace hK1:=hK1.trans hE_
 replace hK2:=hK2.trans hE_
 replace hX:=hX.trans hE_
 clear hE_
 refine gb ?_
 exact ret1 (v:=.bool _) rfl rfl ⟨hX,rfl⟩
end Go.Proofs.YtncbjgblcofddaaGreatDoor
