/- Joined: Fpl, Lgg. -/
import Derived.Test.YtncbjgblcofddaaGreatDoorQoc
import Derived.Test.YtncbjgblcofddaaGreatDoorQok
import Derived.Test.YtncbjgblcofddaaGreatDoorQj
import Derived.Test.YtncbjgblcofddaaGreatDoorQf
import Derived.Test.YtncbjgblcofddaaGreatDoorQon
/- The text of a Gram matrix is read as that matrix. A plain text. -/
namespace Go.Dig
open Go.Lib
theorem zt_no {c:UInt8} (h:isDig c = false) (h2:c ≠ 45) (z:Int):c ∉ zt z:=by
 have hn:∀ n,c ∉ nt n:=fun n hm=>by have:=nt_dig n c hm; rw [h] at this; cases this
 unfold zt
 split
 · intro hm
   rw [List.mem_singleton.1 hm] at h
   exact absurd h (by decide)
 · split
   · intro hm
     rcases List.mem_cons.1 hm with e | e
     · exact h2 e
     · exact hn _ e
   · exact hn _
theorem rowT_no {c:UInt8} (h:isDig c = false) (h2:c ≠ 45) (h3:c ≠ 32) (M:Nat→Nat→Int) (i:Nat):∀ j,c ∉ rowT M i j
 | 0=>by simp [rowT]
 | j + 1=>by
  simp only [rowT,List.mem_append,not_or]
  refine ⟨⟨rowT_no h h2 h3 M i j,?_⟩,zt_no h h2 _⟩
  split
  · simp
  · simpa using h3
theorem wd_lines (M:Nat→Nat→Int):∀ (i:Nat) (r:List UInt8),wd 10 (linesT M i ++ r) = (List.range i).map (fun k=>rowT M k (k + 1)) ++ wd 10 r
 | 0,r=>by simp [linesT]
 | i + 1,r=>by
  rw [show linesT M (i + 1) ++ r = linesT M i ++ (rowT M i (i + 1) ++ 10 :: r) by simp [linesT]]
  rw [wd_lines M i,wd_cut (rowT_no (by decide) (by decide) (by decide) M i (i + 1)),List.range_succ]
  simp
theorem wd_form {n:Nat} (M:Nat→Nat→Int) (h1:1≤n) (h8:n≤8):wd 10 (formT n M) = ([102,111,114,109,32] ++ [ch n]) :: ((List.range n).map (fun k=>rowT M k (k + 1)) ++ [[]]):=by
 have hc:ch n ≠ 10:=fun e=>by
  have:=ch_nat (d:=n) (by omega)
  rw [e] at this
  have h10:(10:UInt8).toNat = 10:=rfl
  omega
 rw [show formT n M = ([102,111,114,109,32] ++ [ch n]) ++ 10 :: (linesT M n ++ []) by simp [formT,headT]]
 rw [wd_cut (by simp [hc.symm]),wd_lines]
 rfl
theorem wd_rowC (M:Nat→Nat→Int) (i:Nat):∀ (j:Nat) (r:List UInt8),wd 32 (rowT M i (j + 1) ++ 32 :: r) = (List.range (j + 1)).map (fun k=>zt (M i k)) ++ wd 32 r
 | 0,r=>by
  rw [show rowT M i 1 = zt (M i 0) by simp [rowT],wd_cut (zt_no (by decide) (by decide) _)]
  rfl
 | j + 1,r=>by
  rw [show rowT M i (j + 1 + 1) ++ 32 :: r = rowT M i (j + 1) ++ 32 :: (zt (M i (j + 1)) ++ 32 :: r) by rw [rowT,if_neg (by omega)]; simp]
  rw [wd_rowC M i j,wd_cut (zt_no (by decide) (by decide) _),List.range_succ (n:=j + 1)]
  simp
theorem wd_row (M:Nat→Nat→Int) (i j:Nat):wd 32 (rowT M i (j + 1)) = (List.range (j + 1)).map (fun k=>zt (M i k)):=by
 cases j with
 | zero =>
  rw [show rowT M i 1 = zt (M i 0) by simp [rowT],wd_none (zt_no (by decide) (by decide) _)]
  rfl
 | succ j =>
  rw [show rowT M i (j + 1 + 1) = rowT M i (j + 1) ++ 32 :: zt (M i (j + 1)) by rw [rowT,if_neg (by omega)]; simp]
  rw [wd_rowC,wd_none (zt_no (by decide) (by decide) _),List.range_succ (n:=j + 1)]
  simp
theorem okRow_row {M:Nat→Nat→Int} {i:Nat} (h:∀ k,k≤i→okLen (M i k)):okRow i (rowT M i (i + 1)):=by
 unfold okRow
 rw [wd_row]
 refine ⟨by simp,fun w hw=>?_⟩
 obtain ⟨k,hk,rfl⟩:=List.mem_map.1 hw
 exact okNum_zt (h k (by have:=List.mem_range.1 hk; omega))
theorem form_row {n i:Nat} (M:Nat→Nat→Int) (h1:1≤n) (h8:n≤8) (hi:i < n):(wd 10 (formT n M)).getD (i + 1) [] = rowT M i (i + 1):=by
 rw [wd_form M h1 h8]
 simp [List.getD,List.getElem?_append_left,hi]
theorem form_len {n:Nat} (M:Nat→Nat→Int) (h1:1≤n) (h8:n≤8):(wd 10 (formT n M)).length = n + 2:=by
 rw [wd_form M h1 h8]; simp
theorem form_dim {n:Nat} (M:Nat→Nat→Int) (h1:1≤n) (h8:n≤8):dimT ((wd 10 (formT n M)).getD 0 []) = n:=by
 rw [wd_form M h1 h8]
 unfold dimT
 have:=ch_nat (d:=n) (by omega)
 simp [List.getD,this]
theorem form_rowE {n:Nat} {M:Nat→Nat→Int} (h1:1≤n) (h8:n≤8) (h:okT n M):∀ k i,i + k = n→rowE (wd 10 (formT n M)) k i = 0
 | 0,_,_=>rfl
 | k + 1,i,e=>by
  rw [rowE,if_pos ⟨by rw [form_len M h1 h8]; omega,by rw [form_row M h1 h8 (by omega)]; exact okRow_row fun q hq=>h i q (by omega) hq⟩]
  exact form_rowE h1 h8 h k (i + 1) (by omega)
theorem form_perr {n:Nat} {M:Nat→Nat→Int} (h1:1≤n) (h8:n≤8) (h:okT n M):perr (wd 10 (formT n M)) = 0:=by
 have hh:okHd ((wd 10 (formT n M)).getD 0 []):=by
  rw [wd_form M h1 h8]
  have:=ch_nat (d:=n) (by omega)
  refine ⟨by simp [List.getD],by simp [List.getD],?_,?_⟩ <;> simp [List.getD,this] <;> omega
 unfold perr
 rw [if_pos ⟨by rw [form_len M h1 h8]; omega,hh⟩,form_dim M h1 h8,form_rowE h1 h8 h n 0 (by omega),if_neg (by simp),if_pos]
 rw [wd_form M h1 h8]
 simp
theorem form_mat {n:Nat} {M:Nat→Nat→Int} (h1:1≤n) (h8:n≤8) (hs:∀ i j,i < n→j < n→M i j = M j i):∀ i j,i < n→j < n→matT (wd 10 (formT n M)) i j = M i j:=by
 have he:∀ i j,i < n→j≤i→entT (wd 10 (formT n M)) i j = M i j:=fun i j hi hj=>by
  unfold entT
  rw [form_row M h1 h8 hi,wd_row]
  rw [show ((List.range (i + 1)).map fun k=>zt (M i k)).getD j [] = zt (M i j) by simp [List.getD,show j < i + 1 by omega],pval_zt]
 intro i j hi hj
 unfold matT
 rw [he _ _ (by omega) (by omega)]
 by_cases h:j≤i
 · rw [Nat.max_eq_left h,Nat.min_eq_right h]
 · rw [Nat.max_eq_right (by omega),Nat.min_eq_left (by omega)]
   exact hs j i hj hi
theorem form_length {n:Nat} {M:Nat→Nat→Int} (h8:n≤8) (h:okT n M):(formT n M).length≤200000:=by
 have:=linesT_len (M:=M) h8 fun a k ha hk=>h a k ha hk
 unfold formT headT
 simp only [List.length_append,List.length_cons,List.length_nil]
 omega
end Go.Dig
namespace Go.Proofs.YtncbjgblcofddaaGreatDoor
open Go Go.Eng Go.Num Go.Dig Go.Proofs
open Go.Det (det)
theorem okLen_bd {z:Int} (h:Bd 5 z):Dig.okLen z:=by
 unfold Bd at h
 unfold Dig.okLen
 have:dlen z.natAbs≤50:=dlen_le (Nat.lt_of_lt_of_le h (by decide))
 omega
theorem okT_bd {n:Nat} {M:Nat→Nat→Int} (h:∀ i j,i < n→j < n→Bd 5 (M i j)):okT n M:=fun i j hi hj=>okLen_bd (h i j hi (by omega))
theorem valE_same {n:Nat} {M M':Nat→Nat→Int} (h:valE n (fun _=>n) M = 0) (e:∀ i j,i < n→j < n→M' i j = M i j):valE n (fun _=>n) M' = 0:=by
 obtain ⟨hok,h8,hs,hp⟩:=valE_zero.1 h
 refine valE_0 ⟨hok,h8⟩ (fun i j hi hj=>?_) fun q hq=>?_
 · rw [e i j hi (by omega),e j i (by omega) hi]; exact hs i j hi hj
 · rw [Go.Det.det_congr (C:=M) fun i j hi hj=>e i j (by omega) (by omega)]
   exact hp q hq
set_option maxHeartbeats 32000000 in
theorem lawGramRoundTrip {vx:Value} {dm kd q m:Nat} {ns ms:Nat→Int} {w:World} (hm:ML w) (hx:LatV w vx dm kd q ns m ms) :
 Meets Tryz.prog 6 #[vx] w (Law w):=by
 obtain ⟨A,cap,A',cap',rfl,hd,hk,hc,hc',hN,hN'⟩:=hx
 have hL:=LatV.agg hd hk hc hc' hN hN'
 have hdm:=Nat.mod_lt dm (show 0 < 5 by decide)
 obtain ⟨n,hn⟩ : ∃ n,n = 1 + dm % 5:=⟨_,rfl⟩
 have hn1:1≤n:=by omega
 have hn5:n≤5:=by omega
 have hn0:n < 9223372036854775808:=by omega
 refine fn_W (n:=41) Tryz.func6 rfl rfl (by kernel_rfl) (by simp) ?_
 have hX:Ext w w:=Ext.refl w
 refine gb ?_
 refine R1_box (v:=.agg _) (.inl rfl) rfl ?_
 intro w_1 hB0_ hE_ hs_
 have hX1:Blk w_1 w.heap.size 25 #[.int .u8 ((dm:Nat):Int),.int .u8 ((kd:Nat):Int),.slice A q cap,.slice A' m cap']:=hB0_
 obtain ⟨gX,hg_⟩ : ∃ g,g = w.heap.size:=⟨_,rfl⟩
 rw [← hg_] at hX1 ⊢
 have hfr_gX:w.heap.size≤gX:=by have:=hX.size; omega
 replace hX:=hX.trans hE_
 clear hB0_ hs_ hg_ hE_
 obtain ⟨x0,x1,x2,x3⟩:=blkQ hX1
 refine gb ?_
 refine R1_load4F (by decide) agg_Lat rfl x0 x1 x2 x3 ?_
 clear x0 x1 x2 x3
 refine gb ?_
 refine gb ?_
 refine R1_call2 (latRaw_ok _ dm kd q m 5 ns ms w_1 (hL w_1 hX) (by decide) (by decide)) ?_
 rintro _ w_2 ⟨hE_,gM,gsM,M,rfl,_,_,hO,h0,hdet,bM⟩
 replace hX1:=hX1.ext hE_
 replace hX:=hX.trans hE_
 clear hE_
 rw [← hn] at hO h0 hdet bM ⊢
 have hK:Ext w_2 w_2:=Ext.refl _
 have hrd:∀ {u:World},Ext w_2 u→MatE (EI 5) u (.slice (some ⟨gM,0,none⟩) n n) n (fun _=>n) M:=fun hE=>(hO.ext hE).read bM hn0 hn0
 have hok:=okT_bd bM
 have hpe:=form_perr hn1 (by omega) hok
 have hdi:=form_dim M hn1 (show n≤8 by omega)
 have hsy:=(val_pm h0).2
 have hma:=form_mat hn1 (show n≤8 by omega) (fun i j hi hj=>hsy i j hi hj)
 have hln:=form_length (show n≤8 by omega) hok
 have hv:valE n (fun _=>n) (matT (wd 10 (formT n M))) = 0:=valE_same h0 hma
 refine gb ?_
 refine gb ?_
 refine R1_call2 (gformat_ok _ n 5 _ M w_2 (hrd hK) (by decide) (by decide)) ?_
 rintro _ w_3 ⟨hE_,hf⟩
 replace hK:=hK.trans hE_
 replace hX:=hX.trans hE_
 clear hE_
 obtain ⟨hne,_⟩ | ⟨_,⟨_,rfl⟩ | ⟨hno,_⟩⟩:=hf
 · exact absurd h0 hne
 rotate_left
 · exact absurd hok hno
 refine gb ?_
 refine gb ?_
 refine R1_call2 (gparse_ok _ w_3 (hm.ext hX) (by omega)) ?_
 rintro _ w_4 ⟨hE_,hg⟩
 replace hK:=hK.trans hE_
 replace hX:=hX.trans hE_
 clear hE_
 obtain ⟨hne,_⟩ | ⟨_,n',hn',_,_,bT,⟨_,gO,gs,rfl,_,_,hOT⟩ | ⟨hv',_⟩⟩:=hg
 · exact absurd hpe hne
 rotate_left
 · rw [hdi] at hn'
   subst hn'
   exact absurd hv hv'
 rw [hdi] at hn'
 subst hn'
 have hK2:Ext w_4 w_4:=Ext.refl _
 refine gb ?_
 refine gb ?_
 refine R1_call2 (rcopy_ok _ n' n' 5 M w_4 (hrd hK) (by omega) hn1 (by omega) (by decide)) ?_
 rintro _ w_5 ⟨hE_,gC,gsC,cpC,rfl,_,_,_,hGC⟩
 replace hK:=hK.trans hE_
 replace hK2:=hK2.trans hE_
 replace hX:=hX.trans hE_
 clear hE_
 refine gb ?_
 have hC:MatE (EC 209) w_5 _ n' (fun _=>n') M:=(hGC.readC hn0).monoC (show 5≤209 by decide)
 have hT:MatE (EC 209) w_5 _ n' (fun _=>n') (matT (wd 10 (formT n' M))):=(hOT.ext hK2).readC bT hn0 hn0
 refine gb ?_
 refine R1_call2 (rsameM_ok _ _ _ _ 209 _ _ _ _ w_5 hT hC (by decide)) ?_
 rintro _ w_6 ⟨hE_,b,rfl,hb⟩
 replace hK:=hK.trans hE_
 replace hK2:=hK2.trans hE_
 replace hX:=hX.trans hE_
 clear hE_
 obtain rfl:b = true:=hb.2 ⟨rfl,fun i hi=>⟨rfl,fun j hj=>hma i j hi hj⟩⟩
 refine gb ?_
 refine gb ?_
 refine R1_call2 (awake7_ok w_6 (hm.ext hX)) ?_
 rintro _ w_7 ⟨hE_,rfl⟩
 replace hK:=hK.trans hE_
 replace hK2:=hK2.trans hE_
 replace hX:=hX.trans hE_
 clear hE_
 refine gb ?_
 exact ret1 (v:=.bool _) rfl rfl ⟨hX,rfl⟩
end Go.Proofs.YtncbjgblcofddaaGreatDoor
