/- Joined: Ten, Lgk. -/
import Derived.Test.YtncbjgblcofddaaGreatDoorQoa
import Derived.Test.YtncbjgblcofddaaGreatDoorQoj
import Derived.Test.YtncbjgblcofddaaGreatDoorQpa
import Derived.Test.YtncbjgblcofddaaGreatDoorQf
import Derived.Test.YtncbjgblcofddaaGreatDoorQox
/- The text of a power of ten. A plain text. -/
namespace Go.Dig
theorem dig_ten {k:Nat}:∀ j,j≤k→dig j (10 ^ k) = List.replicate j 0
 | 0,_=>rfl
 | j + 1,h=>by
  rw [dig_snoc,dig_ten j (by omega),List.replicate_succ']
  congr 2
  obtain ⟨d,rfl⟩ : ∃ d,k = j + (d + 1):=⟨k - j - 1,by omega⟩
  rw [Nat.pow_add,Nat.mul_div_cancel_left _ (Nat.pow_pos (by decide)),Nat.pow_succ]
  exact Nat.mul_mod_left _ _
theorem dlen_ten (k:Nat):dlen (10 ^ k) = k + 1 :=
 (dlen_uniq (by rw [Nat.pow_succ]; have:=Nat.pow_pos (n:=k) (show 0 < 10 by decide); omega) (fun _=>by rw [Nat.add_sub_cancel]; exact Nat.le_refl _)).symm
theorem nt_ten (k:Nat):nt (10 ^ k) = 49 :: List.replicate k 48:=by
 unfold nt
 rw [dlen_ten,dig_snoc,dig_ten k (Nat.le_refl _),Nat.div_self (Nat.pow_pos (by decide))]
 simp
 exact ⟨rfl,.inr rfl⟩
theorem zt_ten (k:Nat):zt ((10 ^ k:Nat):Int) = 49 :: List.replicate k 48:=by
 have hp:0 < 10 ^ k:=Nat.pow_pos (by decide)
 unfold zt
 rw [if_neg (by omega),if_neg (by omega),Int.natAbs_natCast,nt_ten]
theorem okLen_ten (k:Nat):okLen ((10 ^ k:Nat):Int) ↔ k≤1999:=by
 unfold okLen
 rw [Int.natAbs_natCast,dlen_ten]; omega
theorem pval_ten (k:Nat):pval (49 :: List.replicate k 48) = ((10 ^ k:Nat):Int):=by rw [← zt_ten,pval_zt]
theorem okNum_ten {k:Nat} (h:k≤1999):okNum (49 :: List.replicate k 48):=by rw [← zt_ten]; exact okNum_zt ((okLen_ten k).2 h)
theorem form_ten (k:Nat):formT 1 (fun _ _=>((10 ^ k:Nat):Int)) = [102,111,114,109,32,49,10,49] ++ List.replicate k 48 ++ [10]:=by
 unfold formT headT
 simp only [linesT,rowT,zt_ten]
 simp
 rfl
end Go.Dig
namespace Go.Proofs.YtncbjgblcofddaaGreatDoor
open Go Go.Eng Go.Num Go.Dig Go.Proofs
theorem Bb.congr {w:World} {g cap n:Nat} {F F':Nat→UInt8} (h:Bb w g cap n F) (e:∀ k,k < n→F k = F' k):Bb w g cap n F':=by
 obtain ⟨cs,h1,h2,h3⟩:=h
 exact ⟨cs,h1,h2,fun k hk=>by rw [h3 k hk,e k hk]⟩
set_option maxHeartbeats 16000000 in
theorem zeros_ok (n:Nat) (w:World) (hn:n≤100000) :
 Meets Tryz.prog 25 #[.int .i64 ((n:Nat):Int)] w fun v w'=>Ext w w'∧v = Tx (List.replicate n 48):=by
 refine fn_W (n:=18) Tryz.func25 rfl rfl (by kernel_rfl) (by simp) ?_
 refine gb ?_
 refine R1_make sl_u8 (.inl rfl) rfl rfl (Nat.le_refl _) (by omega) (by omega) ?_
 intro w1 hB hE hsz
 obtain ⟨g,hg⟩ : ∃ g,g = w.heap.size:=⟨_,rfl⟩
 rw [← hg] at hB ⊢
 have hBb:Bb w1 g n n (fun k=>if k < 0 then 48 else 0):=by
  rw [arr_made,Nat.mul_one] at hB
  refine (show Bb w1 g n n (fun _=>0) from ⟨_,hB,by rw [arr_size],fun k hk=>?_⟩).congr fun k _=>by rw [if_neg (by omega)]
  rw [arr_at hk]
  simp [Value.cells,Nat.mod_one]
 have fg:w.heap.size≤g:=by omega
 clear hB hsz
 refine gb ?_
 refine W_seqM (fun f w'=>f 3 = .slice (some ⟨g,0,none⟩) n n∧Ext w w'∧Bb w' g n n (fun _=>48)) ?_ ?_
 · refine gb ?_
   refine W_loop (fun q f w'=>∃ i,q = n - i∧i≤n∧f 3 = .slice (some ⟨g,0,none⟩) n n∧f 8 = .int .i64 ((n:Nat):Int)∧f 9 = .int .i64 ((i:Nat):Int)∧Ext w w'∧Bb w' g n n (fun k=>if k < i then 48 else 0))
    n ⟨0,rfl,Nat.zero_le _,rfl,rfl,rfl,hE,hBb⟩ ?_
   clear hE hBb
   rintro q f w' ⟨i,rfl,hi,hf3,hf8,hf9,hX,hBb⟩
   rw [ui hf3,ui hf8,ui hf9]
   clear hf3 hf8 hf9
   by_cases hlt:i < n
   · obtain ⟨cs,hB,hsz,hcs⟩:=hBb
     refine gb ?_
     refine R1_store1 (one_of rfl) (.inl rfl) rfl rfl rfl hB (by omega) ?_
     intro w5 hB5 hC5 hs5
     have hset:=Bb.set (c:=48) hcs hsz hlt hB5
     refine gb ?_
     refine ⟨_,?_,i + 1,rfl,by omega,rfl,rfl,rfl,hC5.ext_of hX (fun b e=>by omega),?_⟩
     · omega
     · refine hset.congr fun k hk=>?_
       by_cases e:k = i
       · rw [if_pos e,if_pos (by omega)]
       · rw [if_neg e]
         by_cases h1:k < i
         · rw [if_pos h1,if_pos (by omega)]
         · rw [if_neg h1,if_neg (by omega)]
   · refine gb ?_
     obtain rfl:i = n:=by omega
     exact ⟨rfl,hX,hBb.congr fun k hk=>if_pos hk⟩
 clear hE hBb
 rintro f w' ⟨hf3,hX,hBb⟩
 rw [ui hf3]
 clear hf3
 refine gb ?_
 refine R1_ofBytes (by decide) by_u8 ty_str rfl (l:=List.replicate n 48) (by simp) (fun w' hw=>?_) ?_
 · rcases hw with hw | rfl
   · exact hw.elim
   · intro j hj
     have hj':j < n:=by simpa using hj
     have:=hBb.at hj'
     rw [show (⟨g,0,none⟩ : Addr).add j = ⟨g,0 + j * 1,none⟩ by rw [add_lit,Nat.mul_one]]
     rw [this]
     simp
 refine gb ?_
 exact ret1 (v:=Tx _) rfl rfl ⟨hX,rfl⟩
theorem zerosX_ok (n k:Nat) (w:World) (hk:k = n) (hn:n≤100000) :
 Meets Tryz.prog 25 #[.int .i64 ((n:Nat):Int)] w fun v w'=>Ext w w'∧∃ Z,Z = List.replicate k 48∧v = Tx Z :=
 (zeros_ok n w hn).mono fun _ _ h=>⟨h.1,_,by rw [hk],h.2⟩
theorem parseTen_ok (k:Nat) (s:List UInt8) (w:World) (hs:s = 49 :: List.replicate k 48) (hk:k≤1999) :
 Meets Tryz.prog 24 #[Tx s] w fun v w'=>Ext w w'∧∃ x y,v = .tuple #[.agg #[x,y],.int .i64 ((0:Nat):Int)]∧CV w' x y ((10 ^ k:Nat):Int) :=
 (rparse_ok s w (by rw [hs]; simp; omega)).mono fun _ _ ⟨hE,x,y,e,hv,hc,he⟩=>by
  subst hs
  have ho:=okNum_ten hk
  rw [if_pos ho,pval_ten] at hc
  have e0:=he.2 ho
  subst e0
  exact ⟨hE,x,y,hv,hc⟩
theorem ten_bd {k:Nat} (h:k≤1999):Bd 209 ((10 ^ k:Nat):Int):=by
 unfold Bd
 rw [Int.natAbs_natCast]
 exact Nat.lt_of_lt_of_le (Nat.pow_lt_pow_right (by decide) (show k < 2000 by omega)) B_209
theorem one_val {z:Int} (h:0 < z):valE 1 (fun _=>1) (fun _ _=>z) = 0 :=
 valE_0 ⟨okS_const (by decide) (by decide),by decide⟩ (fun i j hi hj=>by omega) fun q hq=>by
  obtain rfl:q = 0:=by omega
  have:Go.Det.det 1 (fun _ _=>z) = z:=by simp [Go.Det.det,Go.Det.sm,Go.Det.sgn]
  rw [this]; exact h
set_option maxHeartbeats 16000000 in
theorem lawGramDigits {v0:Value} {a:Nat} {w:World} (hm:ML w) (h0:ByteV v0 a) :
 Meets Tryz.prog 5 #[v0] w (Law w):=by
 obtain ⟨rfl,ha⟩:=h0
 refine fn_W (n:=63) Tryz.func5 rfl rfl (by kernel_rfl) (by simp) ?_
 obtain ⟨r,hr⟩ : ∃ r,r = a % 4:=⟨_,rfl⟩
 have hr4:r < 4:=by omega
 obtain ⟨k1,hk1⟩ : ∃ k,k = 1000:=⟨_,rfl⟩
 obtain ⟨k2,hk2⟩ : ∃ k,k = 997 + r:=⟨_,rfl⟩
 obtain ⟨k3,hk3⟩ : ∃ k,k = 1997 + r:=⟨_,rfl⟩
 obtain ⟨N2,hN2⟩ : ∃ k,k = 209 + 209:=⟨_,rfl⟩
 have hX:Ext w w:=Ext.refl w
 refine gb ?_
 refine gb ?_
 refine R1_call2 (zerosX_ok 1000 k1 w hk1 (by decide)) ?_
 rintro _ w_1 ⟨hE_,Z1,hZ1,rfl⟩
 replace hX:=hX.trans hE_
 clear hE_
 refine gb ?_
 refine R1_catS (a:=[49]) (b:=Z1) rfl rfl (by rw [hZ1]; simp; omega) ?_
 obtain ⟨s1,hs1⟩ : ∃ s,s = [49] ++ Z1:=⟨_,rfl⟩
 rw [← hs1]
 refine gb ?_
 refine gb ?_
 refine R1_call2 (parseTen_ok k1 s1 w_1 (by rw [hs1,hZ1]; rfl) (by omega)) ?_
 rintro _ w_2 ⟨hE_,x1,y1,rfl,hc1⟩
 replace hX:=hX.trans hE_
 clear hE_
 refine gb ?_
 refine gb ?_
 refine R1_alloc (.inl rfl) z_Int ?_
 intro w_3 hB0_ hE_ hs_
 have hD1:=Bx.zero (N:=1) true hB0_
 obtain ⟨g1,hg_⟩ : ∃ g,g = w_2.heap.size:=⟨_,rfl⟩
 rw [← hg_] at hD1 ⊢
 have hfr_g1:w.heap.size≤g1:=by have:=hX.size; omega
 replace hc1:=hc1.ext hE_
 replace hX:=hX.trans hE_
 clear hB0_ hs_ hg_ hE_
 refine gb ?_
 refine gb ?_
 refine R1_storeBx (by first | exact .inl rfl | exact .inr ⟨rfl,fun _ h=>h.mono fun b _ e=>by omega⟩) rfl rfl hD1 (hc1.ev true (ten_bd (by omega))) ?_
 intro w_4 hD1 hC_ hk_ hs_
 replace hc1:=hc1.kp hk_
 replace hX:=hC_.ext_of hX (fun b hb=>by omega)
 clear hC_ hk_ hs_
 refine gb ?_
 refine R1_rem_i64_c rfl (by decide) ?_
 rw [← hr]
 refine gb ?_
 refine gb ?_
 refine R1_call2 (zerosX_ok (997 + r) k2 w_4 hk2 (by omega)) ?_
 rintro _ w_5 ⟨hE_,Z2,hZ2,rfl⟩
 replace hc1:=hc1.ext hE_
 replace hD1:=hD1.ext hE_
 replace hX:=hX.trans hE_
 clear hE_
 refine gb ?_
 refine R1_catS (a:=[49]) (b:=Z2) rfl rfl (by rw [hZ2]; simp; omega) ?_
 obtain ⟨s2,hs2⟩ : ∃ s,s = [49] ++ Z2:=⟨_,rfl⟩
 rw [← hs2]
 refine gb ?_
 refine gb ?_
 refine R1_call2 (parseTen_ok k2 s2 w_5 (by rw [hs2,hZ2]; rfl) (by omega)) ?_
 rintro _ w_6 ⟨hE_,x2,y2,rfl,hc2⟩
 replace hc1:=hc1.ext hE_
 replace hD1:=hD1.ext hE_
 replace hX:=hX.trans hE_
 clear hE_
 refine gb ?_
 refine gb ?_
 refine R1_alloc (.inl rfl) z_Int ?_
 intro w_7 hB0_ hE_ hs_
 have hD2:=Bx.zero (N:=1) true hB0_
 obtain ⟨g2,hg_⟩ : ∃ g,g = w_6.heap.size:=⟨_,rfl⟩
 rw [← hg_] at hD2 ⊢
 have hfr_g2:w.heap.size≤g2:=by have:=hX.size; omega
 have hne_g2_g1:g2 ≠ g1:=by have:=hD1.lt; omega
 replace hc1:=hc1.ext hE_
 replace hD1:=hD1.ext hE_
 replace hc2:=hc2.ext hE_
 replace hX:=hX.trans hE_
 clear hB0_ hs_ hg_ hE_
 refine gb ?_
 refine gb ?_
 refine R1_storeBx (by first | exact .inl rfl | exact .inr ⟨rfl,fun _ h=>h.mono fun b _ e=>by omega⟩) rfl rfl hD2 (hc2.ev true (ten_bd (by omega))) ?_
 intro w_8 hD2 hC_ hk_ hs_
 replace hc1:=hc1.kp hk_
 replace hD1:=hD1.kp hk_ hC_ (by first | omega | assumption)
 replace hc2:=hc2.kp hk_
 replace hX:=hC_.ext_of hX (fun b hb=>by omega)
 clear hC_ hk_ hs_
 refine gb ?_
 obtain ⟨hD1_u,hD1_v,hD1_B,hD1_V⟩:=id hD1
 obtain ⟨hD1_0,hD1_1⟩:=blkP hD1_B
 obtain ⟨hD2_u,hD2_v,hD2_B,hD2_V⟩:=id hD2
 obtain ⟨hD2_0,hD2_1⟩:=blkP hD2_B
 refine gb ?_
 refine gb ?_
 refine R1_call2 (rmul_ok _ _ _ _ _ _ 209 w_8 hD1_V.1 hD2_V.1 (by decide)) ?_
 rintro _ w_9 ⟨hE_,x3,y3,rfl,hc3⟩
 replace hc1:=hc1.ext hE_
 replace hD1:=hD1.ext hE_
 replace hc2:=hc2.ext hE_
 replace hD2:=hD2.ext hE_
 replace hX:=hX.trans hE_
 clear hE_
 have bm:Bd N2 (((10 ^ k1:Nat):Int) * ((10 ^ k2:Nat):Int)):=by rw [hN2]; exact (ten_bd (by omega)).mul (ten_bd (by omega))
 have ev:((10 ^ k1:Nat):Int) * ((10 ^ k2:Nat):Int) = ((10 ^ k3:Nat):Int):=by
  rw [← Int.natCast_mul,← Nat.pow_add,show k1 + k2 = k3 by omega]
 rw [ev] at hc3 bm
 clear hD1_0 hD1_1 hD2_0 hD2_1
 refine gb ?_
 refine R1_sliceE1 (.inl rfl) rfl ?_
 intro w6 hB6 hE6 hs6
 obtain ⟨gr,hgr⟩ : ∃ g,g = (w_9).heap.size:=⟨_,rfl⟩
 rw [← hgr] at hB6 ⊢
 have hX6:=hX.trans hE6
 replace hc3:=hc3.ext hE6
 refine gb ?_
 refine R1_build1 sl_sInt rfl (.inl rfl) rfl rfl ?_
 intro w7 hB7 hE7 hs7
 have hX7:=hX6.trans hE7
 replace hc3:=hc3.ext hE7
 replace hB6:=hB6.ext hE7
 have hmat:MatE (EI N2) w7 (.slice (some ⟨w6.heap.size,0,none⟩) 1 1) 1 (fun _=>1) (fun _ _=>((10 ^ k3:Nat):Int)):=by
  refine ⟨_,_,rfl,Nat.le_refl _,by decide,fun i hi=>?_⟩
  obtain rfl:i = 0:=by omega
  refine ⟨_,_,rfl,by rw [add_lit,hB7.cell]; rfl,_,_,rfl,Nat.le_refl _,by decide,fun j hj=>?_⟩
  obtain rfl:j = 0:=by have:j < 1:=hj; omega
  exact ⟨_,_,_,rfl,by rw [add_lit,hB6.cell]; rfl,by rw [add_lit,add_lit,hB6.cell]; rfl,hc3.iv bm⟩
 have h0:=one_val (z:=((10 ^ k3:Nat):Int)) (by have:=Nat.pow_pos (n:=k3) (show 0 < 10 by decide); omega)
 clear hB6 hB7 hc3 hE6 hE7 hs6 hs7
 refine gb ?_
 refine R1_call2 (gformat_ok _ 1 N2 (fun _=>1) _ w7 hmat (by omega) (by omega)) ?_
 rintro _ w8 ⟨hE8,hf⟩
 have hX:=hX7.trans hE8
 have hokT:okT 1 (fun _ _=>((10 ^ k3:Nat):Int)) ↔ r≤2:=by
  constructor
  · intro h
    have:=(okLen_ten k3).1 (h 0 0 (by omega) (by omega))
    omega
  · intro h i j _ _
    exact (okLen_ten k3).2 (by omega)
 by_cases h3:r = 3
 · obtain ⟨hne,_⟩ | ⟨_,⟨hy,_⟩ | ⟨_,rfl⟩⟩:=hf
   · exact absurd h0 hne
   · have:=hokT.1 hy; omega
   refine gb ?_
   refine W_seq ?_
   refine gb ?_
   refine R1_rem_i64_c rfl (by decide) ?_
   rw [← hr]
   refine gb ?_
   refine R1_call2 (awake7_ok w8 (hm.ext hX)) ?_
   rintro _ w9 ⟨hE9,rfl⟩
   refine gb ?_
   exact ret1 (v:=.bool _) rfl rfl ⟨hX.trans hE9,rfl⟩
 obtain ⟨hne,_⟩ | ⟨_,⟨_,rfl⟩ | ⟨hno,_⟩⟩:=hf
 · exact absurd h0 hne
 rotate_left
 · exact absurd (hokT.2 (by omega)) hno
 obtain ⟨t,ht⟩ : ∃ t,t = formT 1 (fun _ _=>((10 ^ k3:Nat):Int)):=⟨_,rfl⟩
 rw [← ht]
 rw [form_ten] at ht
 refine gb ?_
 refine W_seq ?_
 refine gb ?_
 refine R1_rem_i64_c rfl (by decide) ?_
 rw [← hr]
 refine gb ?_
 refine R1_rem_i64_c rfl (by decide) ?_
 rw [← hr]
 refine gb ?_
 refine R1_call2 (zerosX_ok (1997 + r) k3 w8 hk3 (by omega)) ?_
 rintro _ w9 ⟨hE9,Z3,hZ3,rfl⟩
 refine gb ?_
 refine R1_catS (a:=[102,111,114,109,32,49,10,49]) (b:=Z3) rfl rfl (by rw [hZ3]; simp; omega) ?_
 obtain ⟨s3,hs3⟩ : ∃ s,s = [102,111,114,109,32,49,10,49] ++ Z3:=⟨_,rfl⟩
 rw [← hs3]
 refine gb ?_
 refine R1_catS (a:=s3) (b:=[10]) rfl rfl (by rw [hs3,hZ3]; simp; omega) ?_
 have hts:t = s3 ++ [10]:=by rw [ht,hs3,hZ3]
 rw [← hts]
 refine gb ?_
 rw [show decide (t = t) = true from decide_eq_true rfl]
 refine gb ?_
 refine R1_call2 (awake7_ok w9 (hm.ext (hX.trans hE9))) ?_
 rintro _ w10 ⟨hE10,rfl⟩
 refine gb ?_
 exact ret1 (v:=.bool _) rfl rfl ⟨hX.trans (hE9.trans hE10),rfl⟩
end Go.Proofs.YtncbjgblcofddaaGreatDoor
